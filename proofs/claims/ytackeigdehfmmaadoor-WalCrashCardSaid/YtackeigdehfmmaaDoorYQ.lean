import Derived.Test.YtackeigdehfmmaaDoorYP
namespace Go.Proofs.YtackeigdehfmmaaDoor
open Go.RowKit

def RecG (W w' : World) (b : Nat) (rs : List Wl.Bs) (e : Ending) : Prop :=
  ∃ v, e = .returned (.tuple #[v, .int .i64 b, .int .i64 0]) ∧ OwnV w' W.heap.size 9 v (svs rs)
theorem Recover_g {w : World} {G : Nat → Prop} {p S : Nat} {d : Wl.Dk} {hd b : Nat} {rs : List Wl.Bs} (h : Disk w G p S d) (hC : Cx w G) (hl : Hid (Wl.log d.now = some ⟨hd, b, rs⟩)) :
    Calls Tryd.prog 18 #[.pointer (some ⟨p, 0, none⟩)] w fun e w' => RecG w w' b rs e ∧ Disk w' G p S d.rec'.1 ∧ Kept G w w' := Recover_some _ h hC hl

theorem RG.sub {w : World} {G : Nat → Prop} {ao : Option Addr} {xs : List Value} (h : RG w G ao xs) (i g : Nat) : RG w G (ao.map fun x => x.add i) ((xs.drop i).take g) := by
  intro j x hx
  have hx' : xs[i + j]? = some x := by
    rw [List.getElem?_take] at hx
    split at hx
    · rwa [List.getElem?_drop] at hx
    · cases hx
  obtain ⟨b, off, rfl, hg, hc⟩ := h _ x hx'
  refine ⟨b, off + i, ?_, hg, by rw [Nat.add_assoc]; exact hc⟩
  simp only [Option.map_some, Option.some.injEq]
  unfold Addr.add
  split
  · subst i; rfl
  · rfl
theorem svs_sub (l : List Wl.Bs) (i g : Nat) : ((svs l).drop i).take g = svs ((l.drop i).take g) := by
  simp [svs, List.map_take, List.map_drop]

theorem wrap_small (a b : Nat) (h : a + b ≤ 1000) : IntKind.i64.wrap ((a : Int) + (b : Int)) = (a : Int) + (b : Int) := by
  unfold IntKind.wrap; simp [IntKind.bits, IntKind.signed]; omega

theorem svs_app (l : List Wl.Bs) (r : Wl.Bs) : svs (l ++ [r]) = svs l ++ [sv r] := by simp

section
variable {ops : Array Oper} {rest : List Oper} {o : Oper} {a : Act} {Q : Exit → Act → World → Prop}

/-- append(out, x) of one cell, out from block B on: what lies below stays -/
theorem app_v2 (w : World) (x : Value) (T E : TypeId) (bytes : Nat) (z : Value) (hgd : o.guard = none) (s y : Operand) (ho : o.op = .call { callee := .builtin .append, args := #[s, y], argTypes := #[T, T] })
    (hT : Tryd.prog.underlying T = some (.slice E)) (hE : (Tryd.prog.info? E).map (fun i => (i.zero, i.size, i.bytes)) = some (some z, 1, bytes)) (hz : z.cells.size = 1) (hby : bytes ≤ 16)
    (B : Nat) (v : Value) (l : List Value) (hs : a.eval s = v) (hown : OwnV w B E v l) (hB : B ≤ w.heap.size) (h1x : x.oneCell' = true)
    (hx : a.eval y = .slice (some ⟨w.heap.size, 0, none⟩) 1 1) (hl : l.length ≤ 1000000000)
    (hK : ∀ v' w', OwnV w' B E v' (l ++ [x]) → Kept (fun b => B ≤ b) w w' → wpList Tryd.prog ops Q rest (a.put o.dst v') w') :
    wpList Tryd.prog ops Q (o :: rest) a (w.alloc (.cells #[x] E)) := by
  obtain ⟨i0, hi, hz0, hz1, hz2⟩ := info_parts hE
  refine wpList_append_own _ hgd s y T ho B E i0 z 1 bytes hT hi hz0 hz1 hz2 hz (by decide) v l.length l hs (World.ownsRow.alloc hown _) ⟨w.heap.size, 0, none⟩ 1 1 [x] hx rfl ?_ ?_ ?_ ?_ ?_ ?_
  · intro j u hj
    match j, hj with
    | 0, hj => simp at hj; subst hj; simp [Addr.add]
  · intro u hu; simp at hu; subst hu; exact h1x
  · unfold maxLen; omega
  · have := Nat.mul_le_mul_left (l.length + 1) hby; omega
  · simp; omega
  · intro v' w' h1 h2 _
    refine hK v' w' ?_ ?_
    · unfold OwnV
      rw [List.length_append]
      exact h1
    · have hba := (Kept.refl (G := fun b => B ≤ b) w).alloc (.cells #[x] E)
      refine ⟨h2.os.trans hba.os, h2.tape.trans hba.tape, h2.output.trans hba.output, Nat.le_trans hba.size h2.size, fun k hk hg => ?_⟩
      have hks := hba.size
      refine (h2.block k (by omega) (fun e => ?_)).trans (hba.block k hk hg)
      have := (World.ownsRow.lt hown k e.symm).1
      have hg' : ¬ B ≤ k := hg
      omega
end

theorem Disk.keptG {w w' : World} {G H : Nat → Prop} {p S : Nat} {d : Wl.Dk} (h : Disk w G p S d) (hk : Kept H w w') (hp : ¬ H p) (hn : ∀ g, G g → ¬ H g) : Disk w' G p S d := by
  obtain ⟨g1, g2, g3, h⟩ := h
  exact ⟨g1, g2, g3, hk.cell h.c0 hp, hk.cell h.c1 hp, hk.cell h.c2 hp, h.np, h.G1, h.G2, h.G3, h.n12, h.n13, h.n23, h.r1.mono hk (hn _ h.G1), h.r2.mono hk (hn _ h.G2), h.r3.mono hk (hn _ h.G3), h.ok, h.lo, h.hi⟩
theorem Disk.p_lt {w : World} {G : Nat → Prop} {p S : Nat} {d : Wl.Dk} (h : Disk w G p S d) : p < w.heap.size := by
  obtain ⟨g1, g2, g3, h⟩ := h
  exact cell_lt h.c0
theorem Kept.thenB {w w' w'' : World} {G : Nat → Prop} (h : Kept G w w') (k : Kept (fun b => w.heap.size ≤ b) w' w'') : Kept G w w'' :=
  ⟨k.os.trans h.os, k.tape.trans h.tape, k.output.trans h.output, Nat.le_trans h.size k.size, fun i hi hg => (k.block i (Nat.lt_of_lt_of_le hi h.size) (by omega)).trans (h.block i hi hg)⟩

set_option maxRecDepth 100000 in
set_option maxHeartbeats 12800000 in
theorem crash_main (z : Nat) (l : List OpD) (bits : List Nat) (a ab : Option Addr) (c cb : Nat) (w : World) (hz : z < 256) (hl : OpsR w a l) (hbr : RG w (fun _ => False) ab (uvs bits)) (hfew : Hid (FewP l)) (h20 : bits.length ≤ 20) (hE : Env w) :
    Calls Tryd.prog 5 #[.int .u8 z, .slice a l.length c, .slice ab bits.length cb] w fun e w' => e = .returned (.bool true) ∧ Below w.heap.size w w' := by
  have hll : l.length ≤ 40 := hfew.out.2
  have hM := fun w hE => made_any (4 + z % 5) w (by omega) (by omega) hE
  have hA := fun w hE => awake_any w hE
  have hF := fun w' (h : Below w.heap.size w w') => Few_any l w' a c (hl.mono h) (by omega)
  have hd : decide ((20 : Int) < bits.length) = false := by simp <;> omega
  have HL := Lib.hid hl
  have HB := Lib.hid hbr
  rw [show ((4 + z % 5 : Nat) : Int) = 4 + (z : Int) % 5 by omega] at hM
  obtain ⟨S, hS⟩ : ∃ S, 4 + z % 5 = S := ⟨_, rfl⟩
  rw [hS] at hM
  have hS4 : 4 ≤ S := by omega
  have hS8 : S ≤ 8 := by omega
  clear hl hS hbr
  go_enter Tryd.func5, Tryd.ntmps5
  go_wp2_with fail
  (with_reducible refine (hM w hE).mono ?_)
  rintro e w1 ⟨⟨p, G, v, rfl, HM⟩, hb1⟩
  have hCx := HM.cx hE hb1
  have hD := HM.disk
  have HLO := Lib.hid HM.lo
  obtain ⟨I0, -⟩ := Wl.CInv.start (S := S) hS4 (Wl.Dk.new S) (by simp [Wl.Dk.new])
  have HI := Lib.hid I0
  clear I0
  obtain ⟨d0, hd0⟩ : ∃ d, d = (Wl.Dk.new S).fmt.1 := ⟨_, rfl⟩
  rw [← hd0] at hD HI
  obtain ⟨a1, c1, a2, c2, a3, c3, rfl, -⟩ := HM.ref
  clear HM hM hd0
  go_upto_region 2 with fail
  have hb2 := below_alloc w1 (.cells #[.slice a1 S c1, .slice a2 S c2, .slice a3 S c3] 36)
  have hx : Row (w1.alloc (.cells #[.slice a1 S c1, .slice a2 S c2, .slice a3 S c3] 36)) w1.heap.size 36 [.slice a1 S c1, .slice a2 S c2, .slice a3 S c3] := heap_alloc_new _ _
  have HN8 : Hid (¬ G w1.heap.size) := Lib.hid (fun hg => Nat.lt_irrefl _ (hCx.lt _ hg))
  generalize w1.alloc (.cells #[.slice a1 S c1, .slice a2 S c2, .slice a3 S c3] 36) = w2 at *
  have hb := Below.step hb1 hb2 (Nat.le_refl _)
  have hD := hD.mono hb2
  have hCx := hCx.mono hb2
  clear hb1 hb2 hE
  generalize w1.heap.size = n8 at *
  go_wp2_with fail
  (with_reducible refine (hA w2 hCx.env).mono ?_)
  rintro e w3 ⟨rfl, hb3⟩
  have hx := hx.below hb3
  have hb := Below.step hb hb3 (Nat.le_refl _)
  have hD := hD.mono hb3
  have hCx := hCx.mono hb3
  clear hb3 hA
  go_wp2_with fail
  (with_reducible refine (hF w3 hb).mono ?_)
  rintro e w' ⟨⟨b, rfl, hfb⟩, rfl⟩
  obtain rfl : b = true := hfb.2 hfew.out
  clear hfb hF
  go_wp2_with fail
  have HC3 := Lib.hid hCx
  have HX3 := Lib.hid hx
  have HBW := Lib.hid hb
  have HPL := Lib.hid hD.p_lt
  clear hCx hx hb
  go_loopw [10, 11, 12, 51] (fun s10 s11 s12 s51 wr => ∃ (k : Nat) (d : Wl.Dk) (all : List Wl.Bs) (first synced : Nat), k ≤ l.length ∧ s51 = .int .i64 k ∧ s11 = .int .i64 first ∧ s12 = .int .i64 synced ∧ all.length ≤ 1000 ∧ OwnV wr w3.heap.size 9 s10 (svs all) ∧ Disk wr G p S d ∧ Kept G w3 wr ∧ Hid (Wl.CInv S k ⟨d, all, first, synced⟩)) (fun _ _ _ s51 _ => l.length - (intOf s51).toNat)
  case atStart => exact ⟨0, d0, [], 0, 0, Nat.zero_le _, rfl, rfl, rfl, Nat.zero_le _, OwnV.nil _ _ _, hD, Kept.refl _, HI⟩
  case round =>
    obtain ⟨k, d, all, first, synced, hk, rfl, rfl, rfl, hal, hown, hD, hkw, HI⟩ := hrel
    obtain ⟨ao, cap, rfl, hcap, HRG⟩ := hown.read
    have hvl : (svs all).length = all.length := List.length_map ..
    rw [hvl] at hown hcap
    have hbw : Below w.heap.size w wr := HBW.out.trans (hkw.below HLO.out HBW.out.size)
    have hCw := HC3.out.kept hkw
    by_cases hlt : k < l.length
    · obtain ⟨o, ho⟩ : ∃ o, l[k]? = some o := ⟨_, List.getElem?_eq_getElem hlt⟩
      obtain ⟨b, off, rfl, hat⟩ := (HL.out.mono hbw) k o ho
      have hol := hfew.out.1 o (List.mem_of_getElem? ho)
      obtain ⟨ok, oat, otx, obv⟩ := o
      obtain ⟨g0, g1, g2, g3, hk256, hat1, ba, bn, bc, hbv⟩ := hat
      dsimp only at g0 g1 g2 g3 hk256 hat1 hbv hol
      subst hbv
      clear ho hbw
      go_upto_region 9 with fail
      have hba := below_alloc wr (.cells #[.int .u8 ok, .int .i8 oat, sv otx, .slice ba bn bc] 42)
      have hrow : Row (wr.alloc (.cells #[.int .u8 ok, .int .i8 oat, sv otx, .slice ba bn bc] 42)) wr.heap.size 42 [.int .u8 ok, .int .i8 oat, sv otx, .slice ba bn bc] := heap_alloc_new _ _
      have HN14 : Hid (¬ G wr.heap.size) := Lib.hid (fun hg => Nat.lt_irrefl _ (hCw.lt _ hg))
      generalize wr.alloc (.cells #[.int .u8 ok, .int .i8 oat, sv otx, .slice ba bn bc] 42) = wa at *
      have hD := hD.mono hba
      have hown := hown.mono hba
      have hkw := hkw.trans (.of_below hba)
      have hCw := hCw.mono hba
      clear hba g0 g1 g2 g3
      generalize wr.heap.size = n14 at *
      have o0 := hrow.cell (k := 0) (by simp)
      have o1 := hrow.cell (k := 1) (by simp)
      have o2 := hrow.cell (k := 2) (by simp)
      simp only [List.getElem_cons_zero, List.getElem_cons_succ] at o0 o1 o2
      have h7 : ok % 7 = 0 ∨ ok % 7 = 1 ∨ ok % 7 = 2 ∨ ok % 7 = 3 ∨ 4 ≤ ok % 7 := by omega
      rcases h7 with h7 | h7 | h7 | h7 | h7
      · have t0 : (((ok : Int) % 7) == 0) = true := by simp <;> omega
        have t1 : (((ok : Int) % 7) == 1) = false := by simp <;> omega
        have t2 : (((ok : Int) % 7) == 2) = false := by simp <;> omega
        have t3 : (((ok : Int) % 7) == 3) = false := by simp <;> omega
        clear h7
        go_wp2_with fail
        (with_reducible refine (Append_c (c := k) otx hD hCw.env HI (by omega) hol).mono ?_)
        rintro e w5 ⟨hR, hk5⟩
        have hkw5 := hkw.trans hk5
        have hown5 := hown.kept hk5 HC3.out.lt
        have hrow5 := hrow.mono hk5 HN14.out
        clear o0 o1 o2
        have o2 := hrow5.cell (k := 2) (by simp)
        simp only [List.getElem_cons_zero, List.getElem_cons_succ] at o2
        have hsz := hkw5.size
        rcases hR with ⟨rfl, hD5⟩ | ⟨d', rfl, hD5, HI5⟩
        · go_wp2
          go_roundw
          case rel => exact ⟨k + 1, d, all, first, synced, by omega, by go_num, rfl, rfl, hal, hown5, hD5, hkw5, Lib.hid HI.out.weak⟩
          case measure => simp [intOf]; omega
        · have hac := HI5.out.ac
          simp only [List.length_append, List.length_singleton] at hac
          go_wp2_with (at_builtin; refine app_v2 _ (sv otx) 33 9 16 (.string ⟨#[]⟩) rfl (.tmp 74) (.tmp 77) rfl Tryd.underlying33 Tryd.info9 rfl (by omega) w3.heap.size _ (svs all) rfl hown5 hsz rfl rfl (by simp; omega) ?_; intro v6 w6 hown6 hkB)
          have hown7 : OwnV w6 w3.heap.size 9 v6 (svs (all ++ [otx])) := by rw [svs_app]; exact hown6
          obtain ⟨ao6, cap6, rfl, hcap6, -⟩ := hown7.read
          have hD6 := hD5.keptG hkB (Nat.not_le.2 HPL.out) (fun g hg => Nat.not_le.2 (HC3.out.lt g hg))
          have hkp6 := hkw5.thenB hkB
          go_wp2
          go_roundw
          case rel => exact ⟨k + 1, d', all ++ [otx], first, synced, by omega, by go_num, rfl, rfl, by simp; omega, hown7, hD6, hkp6, HI5⟩
          case measure => simp [intOf]; omega
      · have t0 : (((ok : Int) % 7) == 0) = false := by simp <;> omega
        have t1 : (((ok : Int) % 7) == 1) = true := by simp <;> omega
        have t2 : (((ok : Int) % 7) == 2) = false := by simp <;> omega
        have t3 : (((ok : Int) % 7) == 3) = false := by simp <;> omega
        clear h7
        go_wp2_with fail
        (with_reducible refine (Append_c (c := k) otx hD hCw.env HI (by omega) hol).mono ?_)
        rintro e w5 ⟨hR, hk5⟩
        have hkw5 := hkw.trans hk5
        have hown5 := hown.kept hk5 HC3.out.lt
        have hrow5 := hrow.mono hk5 HN14.out
        clear o0 o1 o2
        have o2 := hrow5.cell (k := 2) (by simp)
        simp only [List.getElem_cons_zero, List.getElem_cons_succ] at o2
        have hsz := hkw5.size
        rcases hR with ⟨rfl, hD5⟩ | ⟨d', rfl, hD5, HI5⟩
        · go_wp2
          go_roundw
          case rel => exact ⟨k + 1, d, all, first, synced, by omega, by go_num, rfl, rfl, hal, hown5, hD5, hkw5, Lib.hid HI.out.weak⟩
          case measure => simp [intOf]; omega
        · have hac := HI5.out.ac
          simp only [List.length_append, List.length_singleton] at hac
          go_wp2_with (at_builtin; refine app_v2 _ (sv otx) 33 9 16 (.string ⟨#[]⟩) rfl (.tmp 74) (.tmp 77) rfl Tryd.underlying33 Tryd.info9 rfl (by omega) w3.heap.size _ (svs all) rfl hown5 hsz rfl rfl (by simp; omega) ?_; intro v6 w6 hown6 hkB)
          have hown7 : OwnV w6 w3.heap.size 9 v6 (svs (all ++ [otx])) := by rw [svs_app]; exact hown6
          obtain ⟨ao6, cap6, rfl, hcap6, -⟩ := hown7.read
          have hD6 := hD5.keptG hkB (Nat.not_le.2 HPL.out) (fun g hg => Nat.not_le.2 (HC3.out.lt g hg))
          have hkp6 := hkw5.thenB hkB
          go_wp2
          go_roundw
          case rel => exact ⟨k + 1, d', all ++ [otx], first, synced, by omega, by go_num, rfl, rfl, by simp; omega, hown7, hD6, hkp6, HI5⟩
          case measure => simp [intOf]; omega
      · have t0 : (((ok : Int) % 7) == 0) = false := by simp <;> omega
        have t1 : (((ok : Int) % 7) == 1) = false := by simp <;> omega
        have t2 : (((ok : Int) % 7) == 2) = true := by simp <;> omega
        have t3 : (((ok : Int) % 7) == 3) = false := by simp <;> omega
        clear h7
        go_wp2_with fail
        (with_reducible refine (Cut_c (c := k) oat hD hCw.env HI (by omega)).mono ?_)
        rintro e w5 ⟨hR, hk5⟩
        have hkw5 := hkw.trans hk5
        have hown5 := hown.kept hk5 HC3.out.lt
        have hrow5 := hrow.mono hk5 HN14.out
        clear o0 o1 o2
        have o1 := hrow5.cell (k := 1) (by simp)
        simp only [List.getElem_cons_zero, List.getElem_cons_succ] at o1
        rcases hR with ⟨rfl, hD5⟩ | ⟨d', x, rfl, rfl, hD5, HI5⟩
        · go_wp2
          go_roundw
          case rel => exact ⟨k + 1, d, all, first, synced, by omega, by go_num, rfl, rfl, hal, hown5, hD5, hkw5, Lib.hid HI.out.weak⟩
          case measure => simp [intOf]; omega
        · go_wp2
          go_roundw
          case rel => exact ⟨k + 1, d', all, x, all.length, by omega, by go_num, rfl, by simp, hal, hown5, hD5, hkw5, HI5⟩
          case measure => simp [intOf]; omega
      · have t0 : (((ok : Int) % 7) == 0) = false := by simp <;> omega
        have t1 : (((ok : Int) % 7) == 1) = false := by simp <;> omega
        have t2 : (((ok : Int) % 7) == 2) = false := by simp <;> omega
        have t3 : (((ok : Int) % 7) == 3) = true := by simp <;> omega
        clear h7
        go_wp2_with fail
        (with_reducible refine (Sync_any hD).mono ?_)
        rintro e w5 ⟨rfl, hD5, hk5⟩
        have hkw5 := hkw.trans hk5
        have hown5 := hown.kept hk5 HC3.out.lt
        go_wp2
        go_roundw
        case rel => exact ⟨k + 1, d.syn, all, first, all.length, by omega, by go_num, rfl, by simp, hal, hown5, hD5, hkw5, Lib.hid HI.out.sync.weak⟩
        case measure => simp [intOf]; omega
      · have t0 : (((ok : Int) % 7) == 0) = false := by simp <;> omega
        have t1 : (((ok : Int) % 7) == 1) = false := by simp <;> omega
        have t2 : (((ok : Int) % 7) == 2) = false := by simp <;> omega
        have t3 : (((ok : Int) % 7) == 3) = false := by simp <;> omega
        clear h7
        go_wp2
        go_roundw
        case rel => exact ⟨k + 1, d, all, first, synced, by omega, by go_num, rfl, rfl, hal, hvl.symm ▸ hown, hD, hkw, Lib.hid HI.out.weak⟩
        case measure => simp [intOf]; omega
    · have hkl : k = l.length := by omega
      subst hkl
      have hB5 := HB.out.old hbw HLO.out
      have hCr := Crash_any bits ab cb hD hCw.lt hB5 (by omega)
      obtain ⟨hd, g, HLg, hg1, hg2⟩ := crash_c HI (by omega) bits
      generalize d.crash bits = dc at *
      generalize d.changed.length = nn at *
      clear hB5 hlt
      go_wp2_with fail
      (with_reducible refine hCr.mono ?_)
      rintro e w5 ⟨rfl, hD5, hk5⟩
      have hkw5 := hkw.trans hk5
      have hown5 := hown.kept hk5 HC3.out.lt
      have hCx5 := hCw.kept hk5
      have hk5' := hk5
      clear hCr hk5
      go_wp2_with fail
      (with_reducible refine (Recover_g hD5 hCx5 HLg).mono ?_)
      rintro e w6 ⟨⟨v6, rfl, hown6⟩, hD6, hk6⟩
      have hkw6 := hkw5.trans hk6
      have hlen : ((all.drop first).take g).length = g := by simp; omega
      have hvl6 : (svs ((all.drop first).take g)).length = g := by rw [List.length_map, hlen]
      obtain ⟨ao6, cap6, rfl, hcap6, HR6⟩ := hown6.read
      rw [hvl6] at hcap6 ⊢
      have hR6 := Lib.hid (HR6 (fun _ => False) (fun _ h => h.elim))
      have hx6 := HX3.out.mono hkw6 HN8.out
      have x0 := hx6.cell (k := 0) (by simp)
      simp only [List.getElem_cons_zero] at x0
      have hLn := fun (v : World) (hv : Below w6.heap.size w6 v) => Len_any (hD6.mono hv)
      have qw := wrap_small first g (by omega)
      have q1 : decide ((first : Int) + (g : Int) < (synced : Int)) = false := by simp <;> omega
      have q2 : decide ((all.length : Int) < (first : Int) + (g : Int)) = false := by simp <;> omega
      have HB6 : Hid (Below w.heap.size w w6) := Lib.hid (HBW.out.trans (hkw6.below HLO.out HBW.out.size))
      have HRA := Lib.hid (((HRG G HC3.out.lt).mono hk5').mono hk6)
      have hc3 : first + g ≤ cap := by omega
      clear HR6 hown6 hown hown5 hD hD5 hD6 hk6 hk5' hCx5 hCw hkw hkw5 hkw6 hbw hx6 HRG HX3 HC3 HPL HI HLg hvl hvl6 HL HB hz hfew HN8 hx hCx HLO hk hll h20
      go_upto_region 26 with fail
      have hS : ∀ W : World, Below w6.heap.size w6 W → W.cell? ⟨n8, 0, none⟩ = some (.slice a1 S c1) ∧ True := fun W hW => ⟨(hW.cell (p := ⟨n8, 0, none⟩) (cell_lt x0)).trans x0, trivial⟩
      refine wp_region_vals (wx := w6) [(fun _ v => v = .int .i64 0), (fun _ v => v = .bool false), (fun _ v => v = .bool false), (fun _ v => v = .int .i64 first), (fun _ v => v = .int .i64 first), (fun _ v => v = .bool false), (fun _ v => v = .bool false), (fun _ v => v = .bool false), (fun _ v => v = .int .i64 first), (fun _ v => v = .slice ao6 g cap6), (fun _ v => v = .int .i64 g), (fun _ v => v = .int .i64 ((first : Int) + (g : Int))), (fun _ v => v = .int .i64 synced), (fun _ v => v = .bool false), (fun _ v => v = .bool false), (fun _ v => v = .bool false), (fun _ v => v = .int .i64 first), (fun _ v => v = .slice ao6 g cap6), (fun _ v => v = .int .i64 g), (fun _ v => v = .int .i64 ((first : Int) + (g : Int))), (fun _ v => v = .slice ao all.length cap), (fun _ v => v = .int .i64 all.length), (fun _ v => v = .bool false), (fun _ v => v = .bool false), (fun _ v => v = .bool false), (fun _ v => v = .pointer (some ⟨p, 0, none⟩)), (fun _ v => v = .int .i64 S), (fun _ v => v = .pointer (some ⟨n8, 0, none⟩)), (fun _ v => v = .slice a1 S c1), (fun _ v => v = .int .i64 S), (fun _ v => v = .bool false), (fun _ v => v = .bool false)] [108, 109, 110, 111, 112, 113, 114, 115, 116, 117, 118, 119, 120, 121, 122, 123, 124, 125, 126, 127, 128, 129, 130, 131, 132, 133, 134, 135, 136, 137, 138, 139] (by kernel_rfl) (by kernel_rfl) (by kernel_rfl) (of_decide_eq_true (by kernel_rfl)) (Below.refl _ _) ⟨stayB_val _, stayB_val _, stayB_val _, stayB_val _, stayB_val _, stayB_val _, stayB_val _, stayB_val _, stayB_val _, stayB_val _, stayB_val _, stayB_val _, stayB_val _, stayB_val _, stayB_val _, stayB_val _, stayB_val _, stayB_val _, stayB_val _, stayB_val _, stayB_val _, stayB_val _, stayB_val _, stayB_val _, stayB_val _, stayB_val _, stayB_val _, stayB_val _, stayB_val _, stayB_val _, stayB_val _, stayB_val _, trivial⟩ ⟨?s0, ?s1, ?s2, ?s3, ?s4, ?s5, ?s6, ?s7, ?s8, ?s9, ?s10, ?s11, ?s12, ?s13, ?s14, ?s15, ?s16, ?s17, ?s18, ?s19, ?s20, ?s21, ?s22, ?s23, ?s24, ?s25, ?s26, ?s27, ?s28, ?s29, ?s30, ?s31, trivial⟩ ?he
      case s0 =>
        rintro T W hb hA K hK
        simp only [ovr, Act.put, List.setIfInBounds_toArray, List.set_cons_zero, List.set_cons_succ] at hK ⊢
        have HK := Lib.hid hK
        clear hK hA
        refine wpOp_want rfl (by rfl) ?_
        go_simp
        exact HK.out _ _ (Below.refl _ _) rfl
      case s1 =>
        rintro T W hb hA K hK
        have e0 : T 108 = .int .i64 0 := hA.1
        simp only [ovr, Act.put, List.setIfInBounds_toArray, List.set_cons_zero, List.set_cons_succ, e0] at hK ⊢
        have HK := Lib.hid hK
        clear hK hA
        refine wpOp_want rfl (by rfl) ?_
        go_simp
        exact HK.out _ _ (Below.refl _ _) rfl
      case s2 =>
        rintro T W hb hA K hK
        have e1 : T 109 = .bool false := hA.1
        simp only [ovr, Act.put, List.setIfInBounds_toArray, List.set_cons_zero, List.set_cons_succ, e1] at hK ⊢
        have HK := Lib.hid hK
        clear hK hA
        refine wpOp_want rfl (by rfl) ?_
        go_simp
        exact HK.out _ _ (Below.refl _ _) rfl
      case s3 =>
        rintro T W hb hA K hK
        have e2 : T 110 = .bool false := hA.1
        simp only [ovr, Act.put, List.setIfInBounds_toArray, List.set_cons_zero, List.set_cons_succ, e2] at hK ⊢
        have HK := Lib.hid hK
        clear hK hA
        refine wpOp_want rfl (by rfl) ?_
        go_simp
        exact HK.out _ _ (Below.refl _ _) rfl
      case s4 =>
        rintro T W hb hA K hK
        have e2 : T 110 = .bool false := hA.1
        simp only [ovr, Act.put, List.setIfInBounds_toArray, List.set_cons_zero, List.set_cons_succ, e2] at hK ⊢
        have HK := Lib.hid hK
        clear hK hA
        refine wpOp_want rfl (by rfl) ?_
        go_simp
        exact HK.out _ _ (Below.refl _ _) rfl
      case s5 =>
        rintro T W hb hA K hK
        have e3 : T 111 = .int .i64 first := hA.1
        have e4 : T 112 = .int .i64 first := hA.2.1
        have e2 : T 110 = .bool false := hA.2.2.1
        simp only [ovr, Act.put, List.setIfInBounds_toArray, List.set_cons_zero, List.set_cons_succ, e3, e4, e2] at hK ⊢
        have HK := Lib.hid hK
        clear hK hA
        refine wpOp_want rfl (by rfl) ?_
        go_simp
        exact HK.out _ _ (Below.refl _ _) (by first | rfl | simp)
      case s6 =>
        rintro T W hb hA K hK
        have e2 : T 110 = .bool false := hA.1
        have e5 : T 113 = .bool false := hA.2.1
        simp only [ovr, Act.put, List.setIfInBounds_toArray, List.set_cons_zero, List.set_cons_succ, e2, e5] at hK ⊢
        have HK := Lib.hid hK
        clear hK hA
        refine wpOp_want rfl (by rfl) ?_
        go_simp
        exact HK.out _ _ (Below.refl _ _) rfl
      case s7 =>
        rintro T W hb hA K hK
        have e6 : T 114 = .bool false := hA.1
        have e2 : T 110 = .bool false := hA.2.1
        simp only [ovr, Act.put, List.setIfInBounds_toArray, List.set_cons_zero, List.set_cons_succ, e6, e2] at hK ⊢
        have HK := Lib.hid hK
        clear hK hA
        refine wpOp_want rfl (by rfl) ?_
        go_simp
        exact HK.out _ _ (Below.refl _ _) rfl
      case s8 =>
        rintro T W hb hA K hK
        have e7 : T 115 = .bool false := hA.1
        simp only [ovr, Act.put, List.setIfInBounds_toArray, List.set_cons_zero, List.set_cons_succ, e7] at hK ⊢
        have HK := Lib.hid hK
        clear hK hA
        refine wpOp_want rfl (by rfl) ?_
        go_simp
        exact HK.out _ _ (Below.refl _ _) rfl
      case s9 =>
        rintro T W hb hA K hK
        have e7 : T 115 = .bool false := hA.1
        simp only [ovr, Act.put, List.setIfInBounds_toArray, List.set_cons_zero, List.set_cons_succ, e7] at hK ⊢
        have HK := Lib.hid hK
        clear hK hA
        refine wpOp_want rfl (by rfl) ?_
        go_simp
        exact HK.out _ _ (Below.refl _ _) rfl
      case s10 =>
        rintro T W hb hA K hK
        have e9 : T 117 = .slice ao6 g cap6 := hA.1
        have e7 : T 115 = .bool false := hA.2.1
        simp only [ovr, Act.put, List.setIfInBounds_toArray, List.set_cons_zero, List.set_cons_succ, e9, e7] at hK ⊢
        have HK := Lib.hid hK
        clear hK hA
        refine wpOp_want rfl (by rfl) ?_
        go_simp
        exact HK.out _ _ (Below.refl _ _) rfl
      case s11 =>
        rintro T W hb hA K hK
        have e8 : T 116 = .int .i64 first := hA.1
        have e10 : T 118 = .int .i64 g := hA.2.1
        have e7 : T 115 = .bool false := hA.2.2.1
        simp only [ovr, Act.put, List.setIfInBounds_toArray, List.set_cons_zero, List.set_cons_succ, e8, e10, e7] at hK ⊢
        have HK := Lib.hid hK
        clear hK hA
        refine wpOp_want rfl (by rfl) ?_
        go_simp
        exact HK.out _ _ (Below.refl _ _) (by first | rfl | exact congrArg (Value.int IntKind.i64) qw)
      case s12 =>
        rintro T W hb hA K hK
        have e7 : T 115 = .bool false := hA.1
        simp only [ovr, Act.put, List.setIfInBounds_toArray, List.set_cons_zero, List.set_cons_succ, e7] at hK ⊢
        have HK := Lib.hid hK
        clear hK hA
        refine wpOp_want rfl (by rfl) ?_
        go_simp
        exact HK.out _ _ (Below.refl _ _) rfl
      case s13 =>
        rintro T W hb hA K hK
        have e11 : T 119 = .int .i64 ((first : Int) + (g : Int)) := hA.1
        have e12 : T 120 = .int .i64 synced := hA.2.1
        have e7 : T 115 = .bool false := hA.2.2.1
        simp only [ovr, Act.put, List.setIfInBounds_toArray, List.set_cons_zero, List.set_cons_succ, e11, e12, e7] at hK ⊢
        have HK := Lib.hid hK
        clear hK hA
        refine wpOp_want rfl (by rfl) ?_
        go_simp
        exact HK.out _ _ (Below.refl _ _) (by first | rfl | rw [q1])
      case s14 =>
        rintro T W hb hA K hK
        have e7 : T 115 = .bool false := hA.1
        have e13 : T 121 = .bool false := hA.2.1
        simp only [ovr, Act.put, List.setIfInBounds_toArray, List.set_cons_zero, List.set_cons_succ, e7, e13] at hK ⊢
        have HK := Lib.hid hK
        clear hK hA
        refine wpOp_want rfl (by rfl) ?_
        go_simp
        exact HK.out _ _ (Below.refl _ _) rfl
      case s15 =>
        rintro T W hb hA K hK
        have e14 : T 122 = .bool false := hA.1
        have e7 : T 115 = .bool false := hA.2.1
        simp only [ovr, Act.put, List.setIfInBounds_toArray, List.set_cons_zero, List.set_cons_succ, e14, e7] at hK ⊢
        have HK := Lib.hid hK
        clear hK hA
        refine wpOp_want rfl (by rfl) ?_
        go_simp
        exact HK.out _ _ (Below.refl _ _) rfl
      case s16 =>
        rintro T W hb hA K hK
        have e15 : T 123 = .bool false := hA.1
        simp only [ovr, Act.put, List.setIfInBounds_toArray, List.set_cons_zero, List.set_cons_succ, e15] at hK ⊢
        have HK := Lib.hid hK
        clear hK hA
        refine wpOp_want rfl (by rfl) ?_
        go_simp
        exact HK.out _ _ (Below.refl _ _) rfl
      case s17 =>
        rintro T W hb hA K hK
        have e15 : T 123 = .bool false := hA.1
        simp only [ovr, Act.put, List.setIfInBounds_toArray, List.set_cons_zero, List.set_cons_succ, e15] at hK ⊢
        have HK := Lib.hid hK
        clear hK hA
        refine wpOp_want rfl (by rfl) ?_
        go_simp
        exact HK.out _ _ (Below.refl _ _) rfl
      case s18 =>
        rintro T W hb hA K hK
        have e17 : T 125 = .slice ao6 g cap6 := hA.1
        have e15 : T 123 = .bool false := hA.2.1
        simp only [ovr, Act.put, List.setIfInBounds_toArray, List.set_cons_zero, List.set_cons_succ, e17, e15] at hK ⊢
        have HK := Lib.hid hK
        clear hK hA
        refine wpOp_want rfl (by rfl) ?_
        go_simp
        exact HK.out _ _ (Below.refl _ _) rfl
      case s19 =>
        rintro T W hb hA K hK
        have e16 : T 124 = .int .i64 first := hA.1
        have e18 : T 126 = .int .i64 g := hA.2.1
        have e15 : T 123 = .bool false := hA.2.2.1
        simp only [ovr, Act.put, List.setIfInBounds_toArray, List.set_cons_zero, List.set_cons_succ, e16, e18, e15] at hK ⊢
        have HK := Lib.hid hK
        clear hK hA
        refine wpOp_want rfl (by rfl) ?_
        go_simp
        exact HK.out _ _ (Below.refl _ _) (by first | rfl | exact congrArg (Value.int IntKind.i64) qw)
      case s20 =>
        rintro T W hb hA K hK
        have e15 : T 123 = .bool false := hA.1
        simp only [ovr, Act.put, List.setIfInBounds_toArray, List.set_cons_zero, List.set_cons_succ, e15] at hK ⊢
        have HK := Lib.hid hK
        clear hK hA
        refine wpOp_want rfl (by rfl) ?_
        go_simp
        exact HK.out _ _ (Below.refl _ _) rfl
      case s21 =>
        rintro T W hb hA K hK
        have e20 : T 128 = .slice ao all.length cap := hA.1
        have e15 : T 123 = .bool false := hA.2.1
        simp only [ovr, Act.put, List.setIfInBounds_toArray, List.set_cons_zero, List.set_cons_succ, e20, e15] at hK ⊢
        have HK := Lib.hid hK
        clear hK hA
        refine wpOp_want rfl (by rfl) ?_
        go_simp
        exact HK.out _ _ (Below.refl _ _) rfl
      case s22 =>
        rintro T W hb hA K hK
        have e19 : T 127 = .int .i64 ((first : Int) + (g : Int)) := hA.1
        have e21 : T 129 = .int .i64 all.length := hA.2.1
        have e15 : T 123 = .bool false := hA.2.2.1
        simp only [ovr, Act.put, List.setIfInBounds_toArray, List.set_cons_zero, List.set_cons_succ, e19, e21, e15] at hK ⊢
        have HK := Lib.hid hK
        clear hK hA
        refine wpOp_want rfl (by rfl) ?_
        go_simp
        exact HK.out _ _ (Below.refl _ _) (by first | rfl | rw [q2])
      case s23 =>
        rintro T W hb hA K hK
        have e15 : T 123 = .bool false := hA.1
        have e22 : T 130 = .bool false := hA.2.1
        simp only [ovr, Act.put, List.setIfInBounds_toArray, List.set_cons_zero, List.set_cons_succ, e15, e22] at hK ⊢
        have HK := Lib.hid hK
        clear hK hA
        refine wpOp_want rfl (by rfl) ?_
        go_simp
        exact HK.out _ _ (Below.refl _ _) rfl
      case s24 =>
        rintro T W hb hA K hK
        have e23 : T 131 = .bool false := hA.1
        have e15 : T 123 = .bool false := hA.2.1
        simp only [ovr, Act.put, List.setIfInBounds_toArray, List.set_cons_zero, List.set_cons_succ, e23, e15] at hK ⊢
        have HK := Lib.hid hK
        clear hK hA
        refine wpOp_want rfl (by rfl) ?_
        go_simp
        exact HK.out _ _ (Below.refl _ _) rfl
      case s25 =>
        rintro T W hb hA K hK
        have e24 : T 132 = .bool false := hA.1
        simp only [ovr, Act.put, List.setIfInBounds_toArray, List.set_cons_zero, List.set_cons_succ, e24] at hK ⊢
        have HK := Lib.hid hK
        clear hK hA
        refine wpOp_want rfl (by rfl) ?_
        go_simp
        exact HK.out _ _ (Below.refl _ _) rfl
      case s26 =>
        rintro T W hb hA K hK
        have e25 : T 133 = .pointer (some ⟨p, 0, none⟩) := hA.1
        have e24 : T 132 = .bool false := hA.2.1
        simp only [ovr, Act.put, List.setIfInBounds_toArray, List.set_cons_zero, List.set_cons_succ, e25, e24] at hK ⊢
        have HK := Lib.hid hK
        clear hK hA
        refine wpOp_want rfl (by rfl) ?_
        go_simp
        (with_reducible refine (hLn W hb).mono ?_)
        rintro e w1 ⟨rfl, rfl⟩
        have hb1 := Below.refl W.heap.size W
        dsimp only
        exact HK.out _ _ hb1 rfl
      case s27 =>
        rintro T W hb hA K hK
        have e24 : T 132 = .bool false := hA.1
        simp only [ovr, Act.put, List.setIfInBounds_toArray, List.set_cons_zero, List.set_cons_succ, e24] at hK ⊢
        have HK := Lib.hid hK
        clear hK hA
        refine wpOp_want rfl (by rfl) ?_
        go_simp
        exact HK.out _ _ (Below.refl _ _) rfl
      case s28 =>
        rintro T W hb hA K hK
        have e27 : T 135 = .pointer (some ⟨n8, 0, none⟩) := hA.1
        have e24 : T 132 = .bool false := hA.2.1
        simp only [ovr, Act.put, List.setIfInBounds_toArray, List.set_cons_zero, List.set_cons_succ, e27, e24] at hK ⊢
        have HK := Lib.hid hK
        clear hK hA
        obtain ⟨c0, c1⟩ := hS W hb
        refine wpOp_want rfl (by rfl) ?_
        go_simp
        exact HK.out _ _ (Below.refl _ _) rfl
      case s29 =>
        rintro T W hb hA K hK
        have e28 : T 136 = .slice a1 S c1 := hA.1
        have e24 : T 132 = .bool false := hA.2.1
        simp only [ovr, Act.put, List.setIfInBounds_toArray, List.set_cons_zero, List.set_cons_succ, e28, e24] at hK ⊢
        have HK := Lib.hid hK
        clear hK hA
        refine wpOp_want rfl (by rfl) ?_
        go_simp
        exact HK.out _ _ (Below.refl _ _) rfl
      case s30 =>
        rintro T W hb hA K hK
        have e26 : T 134 = .int .i64 S := hA.1
        have e29 : T 137 = .int .i64 S := hA.2.1
        have e24 : T 132 = .bool false := hA.2.2.1
        simp only [ovr, Act.put, List.setIfInBounds_toArray, List.set_cons_zero, List.set_cons_succ, e26, e29, e24] at hK ⊢
        have HK := Lib.hid hK
        clear hK hA
        refine wpOp_want rfl (by rfl) ?_
        go_simp
        exact HK.out _ _ (Below.refl _ _) (by first | rfl | simp)
      case s31 =>
        rintro T W hb hA K hK
        have e24 : T 132 = .bool false := hA.1
        have e30 : T 138 = .bool false := hA.2.1
        simp only [ovr, Act.put, List.setIfInBounds_toArray, List.set_cons_zero, List.set_cons_succ, e24, e30] at hK ⊢
        have HK := Lib.hid hK
        clear hK hA
        refine wpOp_want rfl (by rfl) ?_
        go_simp
        exact HK.out _ _ (Below.refl _ _) rfl
      case he =>
        rintro T W hb hA
        have hend : T 139 = .bool false := hA.at 31 (by decide)
        clear hA
        simp only [ovr, List.setIfInBounds_toArray, List.set_cons_zero, List.set_cons_succ, hend]
        go_wp2_with fail
        · have hg0 : g = 0 := by omega
          have hSm := Same_yes ((all.drop first).take g) W (fun _ => False) G ao6 ao cap6 0 (hR6.out.mono (.of_below hb)) (by rw [hg0]; exact RG.nil _ _ _) (by omega)
          rw [hlen] at hSm
          (with_reducible refine hSm.mono ?_)
          rintro e w7 ⟨rfl, hb7⟩
          go_wp2
          go_ret
          exact ⟨rfl, Below.step HB6.out (Below.step hb hb7 (Nat.le_refl _)) (Nat.le_refl _)⟩
        · go_wp2_with fail
          have hSm := Same_yes ((all.drop first).take g) W (fun _ => False) G ao6 (ao.map fun x => x.add first) cap6 (cap - first) (hR6.out.mono (.of_below hb)) (by have := (HRA.out.mono (Kept.of_below hb)).sub first g; rw [svs_sub] at this; exact this) (by omega)
          rw [hlen] at hSm
          (with_reducible refine hSm.mono ?_)
          rintro e w7 ⟨rfl, hb7⟩
          go_wp2
          go_ret
          exact ⟨rfl, Below.step HB6.out (Below.step hb hb7 (Nat.le_refl _)) (Nat.le_refl _)⟩

end Go.Proofs.YtackeigdehfmmaaDoor
