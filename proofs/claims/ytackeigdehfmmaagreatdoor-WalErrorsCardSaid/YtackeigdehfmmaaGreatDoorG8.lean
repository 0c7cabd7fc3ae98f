import Derived.Test.YtackeigdehfmmaaGreatDoorG7
namespace Go.Proofs.YtackeigdehfmmaaGreatDoor
open Go.RowKit

/-- what the reference's Read gives where there is no log -/
def RdN (e : Ending) : Prop := e = .returned (.tuple #[.agg #[.int .i64 0, .int .i64 0, .slice none 0 0], .int .i64 21])

theorem heapZ (w : World) (A B : Obj) : ((w.alloc A).alloc B).heap[w.heap.size]? = some A ∧ ((w.alloc A).alloc B).heap[w.heap.size + 1]? = some B ∧ ((w.alloc A).alloc B).heap.size = w.heap.size + 2 ∧ Below w.heap.size w ((w.alloc A).alloc B) := by
  have e : ((w.alloc A).alloc B).heap = (w.heap.push A).push B := rfl
  refine ⟨?_, ?_, ?_, ?_⟩
  · rw [e]; rw [Array.getElem?_push, if_neg (by simp; try omega)]; rw [Array.getElem?_push, if_pos (by simp)]
  · rw [e]; rw [Array.getElem?_push, if_pos (by simp)]
  · rw [e]; simp
  · exact ((Below.refl _ _).alloc (Nat.le_refl _) _).alloc (by simp) _

section
variable {w : World} {G : Nat → Prop} {S : Nat} {d : Wl.Dk}

set_option maxRecDepth 100000 in
theorem rRead_small {a1 a2 a3 : Option Addr} {c1 c2 c3 : Nat} (h4 : S < 4) :
    Calls Tryz.prog 40 #[.agg #[.slice a1 S c1, .slice a2 S c2, .slice a3 S c3]] w fun e w' => RdN e ∧ Below w.heap.size w w' := by
  have d0 : decide ((S : Int) < 4) = true := by simp <;> omega
  clear h4
  go_enter Tryz.func40, Tryz.ntmps40
  go_upto_region 1 with fail
  obtain ⟨r1, r2, hsz, hb⟩ := heapZ w (.cells #[.slice a1 S c1, .slice a2 S c2, .slice a3 S c3] 28) (.cells #[.int .i64 0, .int .i64 0, .slice none 0 0] 68)
  generalize (w.alloc (.cells #[.slice a1 S c1, .slice a2 S c2, .slice a3 S c3] 28)).alloc (.cells #[.int .i64 0, .int .i64 0, .slice none 0 0] 68) = w1 at *
  have x0 := (show Row w1 w.heap.size 28 [.slice a1 S c1, .slice a2 S c2, .slice a3 S c3] from r1).cell (k := 0) (by simp)
  simp only [List.getElem_cons_zero] at x0
  have hr2 : Row w1 (w.heap.size + 1) 68 [.int .i64 0, .int .i64 0, .slice none 0 0] := r2
  obtain ⟨q0, q1, q2, f0, f1, f2⟩ := Row3 hr2
  clear r1 r2
  have HB := Lib.hid hb
  have hn : w.heap.size ≠ w.heap.size + 1 := by omega
  clear hb
  generalize hn2 : w.heap.size + 1 = n2 at *
  have HN2 := Lib.hid hn2
  clear hn2 hsz
  go_wp2
  obtain ⟨k0, k1, k2, _, _, _⟩ := Row3 (hr2.put3 (.int .i64 0) (.int .i64 0) (.slice none 0 0))
  refine bodyPost_ret (v := .tuple #[.agg #[.int .i64 0, .int .i64 0, .slice none 0 0], .int .i64 21]) (by simp [results, Tryz.results40, go_sem, k0, k1, k2]) rfl ⟨rfl, ?_⟩
  exact HB.out.trans ((((((Kept.refl (G := fun b => b = n2) w1).setCell (p := ⟨n2, 0, none⟩) rfl _).setCell (p := ⟨n2, 1, none⟩) rfl _).setCell (p := ⟨n2, 2, none⟩) rfl _)).below (fun b hb => by rw [hb, ← HN2.out]; omega) HB.out.size)

/-- what the reference's Read gives of a log -/
def RdS (W w' : World) (L : Wl.Log) (e : Ending) : Prop := ∃ v, e = .returned (.tuple #[.agg #[.int .i64 L.header, .int .i64 L.first, v], .int .i64 0]) ∧ OwnV w' W.heap.size 9 v (svs L.recs)
def RdR (W w' : World) (d : Wl.Dk) (e : Ending) : Prop := (Wl.log d.now = none ∧ RdN e) ∨ ∃ L, Wl.log d.now = some L ∧ RdS W w' L e

set_option maxRecDepth 100000 in
set_option maxHeartbeats 3200000 in
theorem rRead_any {a1 a2 a3 : Option Addr} {m1 m2 m3 : Nat} (h : RefD w G S a1 a2 a3 d) (hE : Env w) (h4 : 4 ≤ S) :
    Calls Tryz.prog 40 #[.agg #[.slice a1 S m1, .slice a2 S m2, .slice a3 S m3]] w fun e w' => RdR w w' d e ∧ Below w.heap.size w w' := by
  have d0 : decide ((S : Int) < 4) = false := by simp <;> omega
  have hS := h.hi
  have H := Lib.hid h
  have HNL := Lib.hid h.ok.now
  clear h
  go_enter Tryz.func40, Tryz.ntmps40
  go_upto_region 1 with fail
  obtain ⟨r1, r2, hsz, hb⟩ := heapZ w (.cells #[.slice a1 S m1, .slice a2 S m2, .slice a3 S m3] 28) (.cells #[.int .i64 0, .int .i64 0, .slice none 0 0] 68)
  generalize (w.alloc (.cells #[.slice a1 S m1, .slice a2 S m2, .slice a3 S m3] 28)).alloc (.cells #[.int .i64 0, .int .i64 0, .slice none 0 0] 68) = w1 at *
  have hx : Row w1 w.heap.size 28 [.slice a1 S m1, .slice a2 S m2, .slice a3 S m3] := r1
  have hr2 : Row w1 (w.heap.size + 1) 68 [.int .i64 0, .int .i64 0, .slice none 0 0] := r2
  have x0 := hx.cell (k := 0) (by simp)
  simp only [List.getElem_cons_zero] at x0
  clear r1 r2
  go_upto_region 4 with fail
  have hb2 := below_alloc w1 (.cells #[.int .i64 (-1), .int .i64 0, .slice none 0 0] 68)
  have hr4 : Row (w1.alloc (.cells #[.int .i64 (-1), .int .i64 0, .slice none 0 0] 68)) w1.heap.size 68 [.int .i64 (-1), .int .i64 0, .slice none 0 0] := heap_alloc_new _ _
  generalize w1.alloc (.cells #[.int .i64 (-1), .int .i64 0, .slice none 0 0] 68) = w2 at *
  have hx := hx.below hb2
  have hr2 := hr2.below hb2
  have HB := Lib.hid (Below.step hb hb2 (Nat.le_refl _))
  clear x0 hb hb2
  rw [hsz] at hr4
  clear hsz
  generalize hn4 : w.heap.size + 2 = n4 at *
  have hn14 : w.heap.size ≠ n4 := by omega
  have HN := Lib.hid (show w.heap.size ≤ n4 by omega)
  have HN24 := Lib.hid (show w.heap.size + 1 ≠ n4 by omega)
  clear hn4
  go_wp2_with fail
  go_loopw [5] (fun s5 wr => ∃ (i b : Nat) (hd : Int), i ≤ 2 ∧ s5 = .int .i64 i ∧ -1 ≤ hd ∧ hd ≤ 1099511627776 ∧ Row wr n4 68 [.int .i64 hd, .int .i64 b, .slice none 0 0] ∧ Kept (fun g => g = n4) w2 wr ∧ Hid (Wl.hs d.now i = (hd, b))) (fun s5 _ => 2 - (intOf s5).toNat)
  case atStart => exact ⟨0, 0, -1, by omega, rfl, by omega, by omega, hr4, Kept.refl _, Lib.hid rfl⟩
  case round =>
    obtain ⟨i, b, hd, hi, rfl, hd1, hd2, hr, hk, HH⟩ := hrel
    have hbw : Below w.heap.size w wr := HB.out.trans (hk.below (fun g hg => by rw [hg]; exact HN.out) HB.out.size)
    have hE2 := hE.mono hbw
    have hx0 := (hx.mono hk hn14).cell (k := 0) (by simp)
    obtain ⟨q0, q1, q2, f0, f1, f2⟩ := Row3 hr
    simp only [List.getElem_cons_zero] at hx0
    by_cases hlt : i < 2
    · obtain ⟨bb, off, rfl, -, ca⟩ := (H.out.mono hbw).now.at' (k := i) (by simp [HNL.out]; omega)
      rw [svs_get (by rw [HNL.out]; omega)] at ca
      have hsl : (d.now.getD i []).length ≤ 1000000 := by have := Wl.getD_small H.out.ok.small i; omega
      cases hdc : Wl.dec (d.now.getD i []) with
      | none =>
        have HH2 : Hid (Wl.hs d.now (i + 1) = (hd, b)) := Lib.hid (by rw [Wl.hs_none hdc]; exact HH.out)
        have hR := rDecode_none _ wr hsl (Lib.hid hdc) hE2
        clear hdc
        generalize d.now.getD i [] = s at *
        go_wp2_with fail
        (with_reducible refine hR.mono ?_)
        rintro e w3 ⟨rfl, hb3⟩
        go_wp2
        go_roundw
        case rel => exact ⟨i + 1, b, hd, by omega, by go_num, hd1, hd2, hr.below hb3, hk.trans (.of_below hb3), HH2⟩
        case measure => simp [intOf]; omega
      | some q =>
        obtain ⟨n, r⟩ := q
        have hrec := Wl.dec_some.1 hdc
        have hnl := hrec.n_le
        have hrl := hrec.r_le
        unfold Wl.lim at hnl
        have hR := rDecode_some _ n r wr hsl (Lib.hid hrec) hE2
        have HDC := Lib.hid hdc
        clear hdc hrec
        have ca' := ca
        obtain ⟨s, hs⟩ : ∃ s, s = d.now.getD i [] := ⟨_, rfl⟩
        rw [← hs] at ca hR hsl
        clear ca' hs
        by_cases hpar : n % 2 = i
        · have hp1 : ((n : Int) % 2 != (i : Int)) = false := by simp; omega
          by_cases hle : (n : Int) ≤ hd
          · have hl1 : decide ((n : Int) ≤ hd) = true := by simpa using hle
            have HH2 : Hid (Wl.hs d.now (i + 1) = (hd, b)) := Lib.hid (by rw [Wl.hs_less HDC.out (by rw [HH.out]; exact hle)]; exact HH.out)
            clear hpar hle
            go_wp2_with fail
            (with_reducible refine hR.mono ?_)
            rintro e w3 ⟨rfl, hb3⟩
            obtain ⟨q0, q1, q2, f0, f1, f2⟩ := Row3 (hr.below hb3)
            go_wp2
            go_roundw
            case rel => exact ⟨i + 1, b, hd, by omega, by go_num, hd1, hd2, hr.below hb3, hk.trans (.of_below hb3), HH2⟩
            case measure => simp [intOf]; omega
          · have hl1 : decide ((n : Int) ≤ hd) = false := by simpa using hle
            go_wp2_with fail
            (with_reducible refine hR.mono ?_)
            rintro e w3 ⟨rfl, hb3⟩
            have hr3 := hr.below hb3
            obtain ⟨q0, q1, q2, f0, f1, f2⟩ := Row3 hr3
            have hk3 := hk.trans (.of_below (G := fun g => g = n4) hb3)
            have hE3 := hE2.mono hb3
            clear hR hE2 hb3 hr hx0
            go_wp2_with fail
            (with_reducible refine (Number_any r w3 (by omega) hE3).mono ?_)
            rintro e w4 ⟨⟨z, ok, rfl, hz⟩, hb4⟩
            have hr4' := hr3.below hb4
            obtain ⟨q0, q1, q2, f0, f1, f2⟩ := Row3 hr4'
            have hk4 := hk3.trans (.of_below (G := fun g => g = n4) hb4)
            rcases hz with ⟨rfl, x, rfl, hx⟩ | ⟨rfl, hx⟩
            · have HH2 : Hid (Wl.hs d.now (i + 1) = ((n : Int), x)) := Lib.hid (Wl.hs_take HDC.out hpar hx (by rw [HH.out]; exact Int.not_le.2 (by omega)))
              clear hx hpar hle
              go_wp2
              go_roundw
              case rel => exact ⟨i + 1, x, n, by omega, by go_num, by omega, by omega, hr4'.put3 _ _ _, ((hk4.setCell (p := ⟨n4, 0, none⟩) rfl _).setCell (p := ⟨n4, 1, none⟩) rfl _).setCell (p := ⟨n4, 2, none⟩) rfl _, HH2⟩
              case measure => simp [intOf]; omega
            · have HH2 : Hid (Wl.hs d.now (i + 1) = (hd, b)) := Lib.hid (by rw [Wl.hs_num HDC.out hx]; exact HH.out)
              clear hx hpar hle
              go_wp2
              go_roundw
              case rel => exact ⟨i + 1, b, hd, by omega, by go_num, hd1, hd2, hr4', hk4, HH2⟩
              case measure => simp [intOf]; omega
        · have hp1 : ((n : Int) % 2 != (i : Int)) = true := by simp; omega
          have HH2 : Hid (Wl.hs d.now (i + 1) = (hd, b)) := Lib.hid (by rw [Wl.hs_par HDC.out hpar]; exact HH.out)
          clear hpar
          go_wp2_with fail
          (with_reducible refine hR.mono ?_)
          rintro e w3 ⟨rfl, hb3⟩
          obtain ⟨q0, q1, q2, f0, f1, f2⟩ := Row3 (hr.below hb3)
          go_wp2
          go_roundw
          case rel => exact ⟨i + 1, b, hd, by omega, by go_num, hd1, hd2, hr.below hb3, hk.trans (.of_below hb3), HH2⟩
          case measure => simp [intOf]; omega
    · have hi2 : i = 2 := by omega
      subst hi2
      by_cases hneg : hd < 0
      · have hlog : Wl.log d.now = none := by unfold Wl.log; rw [HH.out, if_pos (.inl hneg)]
        have HLG := Lib.hid hlog
        have hr2w := hr2.mono hk HN24.out
        obtain ⟨p0, p1, p2, g0, g1, g2⟩ := Row3 hr2w
        clear hlog
        go_wp2
        obtain ⟨k0, k1, k2, _, _, _⟩ := Row3 (hr2w.put3 (.int .i64 0) (.int .i64 0) (.slice none 0 0))
        refine bodyPost_ret (v := .tuple #[.agg #[.int .i64 0, .int .i64 0, .slice none 0 0], .int .i64 21]) (by simp [results, Tryz.results40, go_sem, k0, k1, k2]) rfl ⟨.inl ⟨HLG.out, rfl⟩, ?_⟩
        exact hbw.trans ((((((Kept.refl (G := fun b => b = w.heap.size + 1) wr).setCell (p := ⟨w.heap.size + 1, 0, none⟩) rfl _).setCell (p := ⟨w.heap.size + 1, 1, none⟩) rfl _).setCell (p := ⟨w.heap.size + 1, 2, none⟩) rfl _)).below (fun b hb => by rw [hb]; omega) hbw.size)
      · obtain ⟨hn, rfl⟩ : ∃ hn : Nat, hd = hn := ⟨hd.toNat, by omega⟩
        have hlog : Wl.log d.now = some ⟨hn, b, Wl.recs d.now (S - 2) (S - 2) b⟩ := by
          rw [Wl.log_of HH.out (by rw [HNL.out]; exact h4), HNL.out]
        have HLG := Lib.hid hlog
        have hble := (Wl.log_le hlog).2.1
        unfold Wl.lim at hble
        clear hlog
        have hsz := cell_lt q0
        obtain ⟨wo, rfl⟩ : ∃ wo : World, wo = wr := ⟨_, rfl⟩
        go_wp2_with fail
        go_loopw [11] (fun _ wq => ∃ (l : List Wl.Bs) (v : Value), l.length ≤ S - 2 ∧ OwnV wq wo.heap.size 9 v (svs l) ∧ Row wq n4 68 [.int .i64 hn, .int .i64 b, v] ∧ Kept (fun g => g = n4) wo wq ∧ Hid (Wl.recs d.now (S - 2) (S - 2) b = l ++ Wl.recs d.now (S - 2) (S - 2 - l.length) (b + l.length))) (fun _ wq => S - 2 - vlen ((wq.cell? ⟨n4, 2, none⟩).getD undef))
        case atStart => exact ⟨[], .slice none 0 0, Nat.zero_le _, OwnV.nil _ _ _, hr, Kept.refl _, Lib.hid rfl⟩
        case round =>
          obtain ⟨l, v, hll, hown, hr5, hk5, HR⟩ := hrel
          obtain ⟨ao, cap, rfl, hcap, -⟩ := hown.read
          have hvl : (svs l).length = l.length := List.length_map ..
          rw [hvl] at hown hcap hr5
          have hbq : Below w.heap.size w wr := hbw.trans (hk5.below (fun g hg => by rw [hg]; exact HN.out) hbw.size)
          have hx5 := ((hx.mono hk hn14).mono hk5 hn14)
          obtain ⟨x0, x1, x2, _, _, _⟩ := Row3 hx5
          obtain ⟨q0, q1, q2, f0, f1, f2⟩ := Row3 hr5
          have hE5 := hE.mono hbq
          by_cases hlt : l.length < S - 2
          · have hq2r := q2
            have hlt' : decide ((l.length : Int) < (S : Int) - 2) = true := by simp; omega
            have hP := fun (W : World) => rplace_any (w := W) (b + l.length) (a1 := a1) (a2 := a2) (a3 := a3) (c1 := m1) (c2 := m2) (c3 := m3) h4 hS (by omega)
            have hpl := Wl.place_lt (m := S - 2) (k := b + l.length) (by omega)
            obtain ⟨q, hq⟩ : ∃ q, Wl.place (S - 2) (b + l.length) = q := ⟨_, rfl⟩
            rw [hq] at hP hpl
            rw [Int.natCast_add] at hP
            have HQ := Lib.hid hq
            have hqS : q < S := by omega
            clear hq
            obtain ⟨bb, off, rfl, -, ca⟩ := (H.out.mono hbq).now.at' (k := q) (by simp [HNL.out]; omega)
            rw [svs_get (by rw [HNL.out]; omega)] at ca
            have hsl : (d.now.getD q []).length ≤ 1000000 := by have := Wl.getD_small H.out.ok.small q; omega
            have hS4 := fun (s : Wl.Bs) (cs : wr.cell? ⟨bb, off + q, none⟩ = some (sv s)) (W : World) (hW : Below wr.heap.size wr W) => (show W.cell? ⟨w.heap.size, 0, none⟩ = some (.slice (some ⟨bb, off, none⟩) S m1) ∧ W.cell? ⟨w.heap.size, 1, none⟩ = some (.slice a2 S m2) ∧ W.cell? ⟨w.heap.size, 2, none⟩ = some (.slice a3 S m3) ∧ W.cell? ⟨bb, off + q, none⟩ = some (sv s) from ⟨(hW.cell (cell_lt x0)).trans x0, (hW.cell (cell_lt x1)).trans x1, (hW.cell (cell_lt x2)).trans x2, (hW.cell (cell_lt cs)).trans cs⟩)
            obtain ⟨f, hf⟩ : ∃ f, S - 2 - l.length = f + 1 := ⟨S - 2 - l.length - 1, by omega⟩
            cases hdc : Wl.dec (d.now.getD q []) with
            | none =>
              have HS : Hid (Wl.recs d.now (S - 2) (S - 2) b = l) := Lib.hid (by rw [HR.out, hf, Wl.recs_stop (by rw [HQ.out]; exact hdc), List.append_nil])
              have hR := fun (W : World) (hE : Env W) => rDecode_none _ W hsl (Lib.hid hdc) hE
              clear hf
              generalize d.now.getD q [] = s at ca hR hsl hdc
              have hS := hS4 s ca
              go_upto_region 16 with fail
              refine wp_region_vals (wx := wr) [(fun _ v => v = .pointer (some ⟨w.heap.size, 0, none⟩)), (fun _ v => v = .slice (some ⟨bb, off, none⟩) S m1), (fun _ v => v = .agg #[.slice (some ⟨bb, off, none⟩) S m1, .slice a2 S m2, .slice a3 S m3]), (fun _ v => v = .int .i64 ((b : Int) + (l.length : Int))), (fun _ v => v = .int .i64 q), (fun _ v => v = .pointer (some ⟨bb, off + q, none⟩)), (fun _ v => v = sv s), (fun _ v => v = .tuple #[.int .i64 0, sv [], .int .i64 21]), (fun _ v => v = .tuple #[.int .i64 0, sv [], .int .i64 21]), (fun _ v => v = .int .i64 0), (fun _ v => v = sv []), (fun _ v => v = .int .i64 21), (fun _ v => v = .int .i64 0), (fun _ v => v = sv []), (fun _ v => v = .int .i64 21)] [77, 78, 79, 80, 81, 82, 83, 84, 76, 85, 86, 87, 12, 13, 14] (by kernel_rfl) (by kernel_rfl) (by kernel_rfl) (of_decide_eq_true (by kernel_rfl)) (Below.refl _ _) ⟨stayB_val _, stayB_val _, stayB_val _, stayB_val _, stayB_val _, stayB_val _, stayB_val _, stayB_val _, stayB_val _, stayB_val _, stayB_val _, stayB_val _, stayB_val _, stayB_val _, stayB_val _, trivial⟩ ⟨?s0, ?s1, ?s2, ?s3, ?s4, ?s5, ?s6, ?s7, ?s8, ?s9, ?s10, ?s11, ?s12, ?s13, ?s14, trivial⟩ ?he
              case s0 =>
                rintro T W hb hA K hK
                simp only [ovr, Act.put, List.setIfInBounds_toArray, List.set_cons_zero, List.set_cons_succ] at hK ⊢
                have HK := Lib.hid hK
                clear hK hA
                refine wpOp_want rfl (by rfl) ?_
                go_simp
                exact HK.out _ _ (Below.refl _ _) rfl
              case s1 =>
                rintro T W hb hA K hK
                have e0 : T 77 = .pointer (some ⟨w.heap.size, 0, none⟩) := hA.1
                simp only [ovr, Act.put, List.setIfInBounds_toArray, List.set_cons_zero, List.set_cons_succ, e0] at hK ⊢
                have HK := Lib.hid hK
                clear hK hA
                obtain ⟨c0, c1, c2, c3⟩ := hS W hb
                refine wpOp_want rfl (by rfl) ?_
                go_simp
                exact HK.out _ _ (Below.refl _ _) rfl
              case s2 =>
                rintro T W hb hA K hK
                simp only [ovr, Act.put, List.setIfInBounds_toArray, List.set_cons_zero, List.set_cons_succ] at hK ⊢
                have HK := Lib.hid hK
                clear hK hA
                obtain ⟨c0, c1, c2, c3⟩ := hS W hb
                refine wpOp_want rfl (by rfl) ?_
                go_simp
                exact HK.out _ _ (Below.refl _ _) rfl
              case s3 =>
                rintro T W hb hA K hK
                simp only [ovr, Act.put, List.setIfInBounds_toArray, List.set_cons_zero, List.set_cons_succ] at hK ⊢
                have HK := Lib.hid hK
                clear hK hA
                refine wpOp_want rfl (by rfl) ?_
                go_simp
                exact HK.out _ _ (Below.refl _ _) rfl
              case s4 =>
                rintro T W hb hA K hK
                have e2 : T 79 = .agg #[.slice (some ⟨bb, off, none⟩) S m1, .slice a2 S m2, .slice a3 S m3] := hA.1
                have e3 : T 80 = .int .i64 ((b : Int) + (l.length : Int)) := hA.2.1
                simp only [ovr, Act.put, List.setIfInBounds_toArray, List.set_cons_zero, List.set_cons_succ, e2, e3] at hK ⊢
                have HK := Lib.hid hK
                clear hK hA
                refine wpOp_want rfl (by rfl) ?_
                go_simp
                (with_reducible refine (hP W).mono ?_)
                rintro e w1 ⟨rfl, hb1⟩
                dsimp only
                exact HK.out _ _ hb1 rfl
              case s5 =>
                rintro T W hb hA K hK
                have e1 : T 78 = .slice (some ⟨bb, off, none⟩) S m1 := hA.1
                have e4 : T 81 = .int .i64 q := hA.2.1
                simp only [ovr, Act.put, List.setIfInBounds_toArray, List.set_cons_zero, List.set_cons_succ, e1, e4] at hK ⊢
                have HK := Lib.hid hK
                clear hK hA
                refine wpOp_want rfl (by rfl) ?_
                go_simp
                exact HK.out _ _ (Below.refl _ _) rfl
              case s6 =>
                rintro T W hb hA K hK
                have e5 : T 82 = .pointer (some ⟨bb, off + q, none⟩) := hA.1
                simp only [ovr, Act.put, List.setIfInBounds_toArray, List.set_cons_zero, List.set_cons_succ, e5] at hK ⊢
                have HK := Lib.hid hK
                clear hK hA
                obtain ⟨c0, c1, c2, c3⟩ := hS W hb
                refine wpOp_want rfl (by rfl) ?_
                go_simp
                exact HK.out _ _ (Below.refl _ _) rfl
              case s7 =>
                rintro T W hb hA K hK
                have e6 : T 83 = sv s := hA.1
                have e4 : T 81 = .int .i64 q := hA.2.1
                simp only [ovr, Act.put, List.setIfInBounds_toArray, List.set_cons_zero, List.set_cons_succ, e6, e4] at hK ⊢
                have HK := Lib.hid hK
                clear hK hA
                refine wpOp_want rfl (by rfl) ?_
                go_simp
                (with_reducible refine (hR W (hE5.mono hb)).mono ?_)
                rintro e w1 ⟨rfl, hb1⟩
                dsimp only
                exact HK.out _ _ hb1 rfl
              case s8 =>
                rintro T W hb hA K hK
                have e7 : T 84 = .tuple #[.int .i64 0, sv [], .int .i64 21] := hA.1
                simp only [ovr, Act.put, List.setIfInBounds_toArray, List.set_cons_zero, List.set_cons_succ, e7] at hK ⊢
                have HK := Lib.hid hK
                clear hK hA
                refine wpOp_want rfl (by rfl) ?_
                go_simp
                exact HK.out _ _ (Below.refl _ _) rfl
              case s9 =>
                rintro T W hb hA K hK
                have e8 : T 76 = .tuple #[.int .i64 0, sv [], .int .i64 21] := hA.1
                simp only [ovr, Act.put, List.setIfInBounds_toArray, List.set_cons_zero, List.set_cons_succ, e8] at hK ⊢
                have HK := Lib.hid hK
                clear hK hA
                refine wpOp_want rfl (by rfl) ?_
                go_simp
                exact HK.out _ _ (Below.refl _ _) rfl
              case s10 =>
                rintro T W hb hA K hK
                have e8 : T 76 = .tuple #[.int .i64 0, sv [], .int .i64 21] := hA.1
                simp only [ovr, Act.put, List.setIfInBounds_toArray, List.set_cons_zero, List.set_cons_succ, e8] at hK ⊢
                have HK := Lib.hid hK
                clear hK hA
                refine wpOp_want rfl (by rfl) ?_
                go_simp
                exact HK.out _ _ (Below.refl _ _) rfl
              case s11 =>
                rintro T W hb hA K hK
                have e8 : T 76 = .tuple #[.int .i64 0, sv [], .int .i64 21] := hA.1
                simp only [ovr, Act.put, List.setIfInBounds_toArray, List.set_cons_zero, List.set_cons_succ, e8] at hK ⊢
                have HK := Lib.hid hK
                clear hK hA
                refine wpOp_want rfl (by rfl) ?_
                go_simp
                exact HK.out _ _ (Below.refl _ _) rfl
              case s12 =>
                rintro T W hb hA K hK
                have e9 : T 85 = .int .i64 0 := hA.1
                have e7 : T 84 = .tuple #[.int .i64 0, sv [], .int .i64 21] := hA.2.1
                have e0 : T 77 = .pointer (some ⟨w.heap.size, 0, none⟩) := hA.2.2.1
                have e1 : T 78 = .slice (some ⟨bb, off, none⟩) S m1 := hA.2.2.2.1
                have e2 : T 79 = .agg #[.slice (some ⟨bb, off, none⟩) S m1, .slice a2 S m2, .slice a3 S m3] := hA.2.2.2.2.1
                have e3 : T 80 = .int .i64 ((b : Int) + (l.length : Int)) := hA.2.2.2.2.2.1
                have e4 : T 81 = .int .i64 q := hA.2.2.2.2.2.2.1
                have e5 : T 82 = .pointer (some ⟨bb, off + q, none⟩) := hA.2.2.2.2.2.2.2.1
                have e6 : T 83 = sv s := hA.2.2.2.2.2.2.2.2.1
                have e8 : T 76 = .tuple #[.int .i64 0, sv [], .int .i64 21] := hA.2.2.2.2.2.2.2.2.2.2.1
                simp only [ovr, Act.put, List.setIfInBounds_toArray, List.set_cons_zero, List.set_cons_succ, e9, e7, e0, e1, e2, e3, e4, e5, e6, e8] at hK ⊢
                have HK := Lib.hid hK
                clear hK hA
                refine wpOp_want rfl (by rfl) ?_
                go_simp
                exact HK.out _ _ (Below.refl _ _) rfl
              case s13 =>
                rintro T W hb hA K hK
                have e10 : T 86 = sv [] := hA.1
                have e12 : T 12 = .int .i64 0 := hA.2.1
                have e0 : T 77 = .pointer (some ⟨w.heap.size, 0, none⟩) := hA.2.2.1
                have e1 : T 78 = .slice (some ⟨bb, off, none⟩) S m1 := hA.2.2.2.1
                have e2 : T 79 = .agg #[.slice (some ⟨bb, off, none⟩) S m1, .slice a2 S m2, .slice a3 S m3] := hA.2.2.2.2.1
                have e3 : T 80 = .int .i64 ((b : Int) + (l.length : Int)) := hA.2.2.2.2.2.1
                have e4 : T 81 = .int .i64 q := hA.2.2.2.2.2.2.1
                have e5 : T 82 = .pointer (some ⟨bb, off + q, none⟩) := hA.2.2.2.2.2.2.2.1
                have e6 : T 83 = sv s := hA.2.2.2.2.2.2.2.2.1
                have e7 : T 84 = .tuple #[.int .i64 0, sv [], .int .i64 21] := hA.2.2.2.2.2.2.2.2.2.1
                have e8 : T 76 = .tuple #[.int .i64 0, sv [], .int .i64 21] := hA.2.2.2.2.2.2.2.2.2.2.1
                have e9 : T 85 = .int .i64 0 := hA.2.2.2.2.2.2.2.2.2.2.2.1
                simp only [ovr, Act.put, List.setIfInBounds_toArray, List.set_cons_zero, List.set_cons_succ, e10, e12, e0, e1, e2, e3, e4, e5, e6, e7, e8, e9] at hK ⊢
                have HK := Lib.hid hK
                clear hK hA
                refine wpOp_want rfl (by rfl) ?_
                go_simp
                exact HK.out _ _ (Below.refl _ _) rfl
              case s14 =>
                rintro T W hb hA K hK
                have e11 : T 87 = .int .i64 21 := hA.1
                have e13 : T 13 = sv [] := hA.2.1
                have e0 : T 77 = .pointer (some ⟨w.heap.size, 0, none⟩) := hA.2.2.1
                have e1 : T 78 = .slice (some ⟨bb, off, none⟩) S m1 := hA.2.2.2.1
                have e2 : T 79 = .agg #[.slice (some ⟨bb, off, none⟩) S m1, .slice a2 S m2, .slice a3 S m3] := hA.2.2.2.2.1
                have e3 : T 80 = .int .i64 ((b : Int) + (l.length : Int)) := hA.2.2.2.2.2.1
                have e4 : T 81 = .int .i64 q := hA.2.2.2.2.2.2.1
                have e5 : T 82 = .pointer (some ⟨bb, off + q, none⟩) := hA.2.2.2.2.2.2.2.1
                have e6 : T 83 = sv s := hA.2.2.2.2.2.2.2.2.1
                have e7 : T 84 = .tuple #[.int .i64 0, sv [], .int .i64 21] := hA.2.2.2.2.2.2.2.2.2.1
                have e8 : T 76 = .tuple #[.int .i64 0, sv [], .int .i64 21] := hA.2.2.2.2.2.2.2.2.2.2.1
                have e9 : T 85 = .int .i64 0 := hA.2.2.2.2.2.2.2.2.2.2.2.1
                have e10 : T 86 = sv [] := hA.2.2.2.2.2.2.2.2.2.2.2.2.1
                have e12 : T 12 = .int .i64 0 := hA.2.2.2.2.2.2.2.2.2.2.2.2.2.2.1
                simp only [ovr, Act.put, List.setIfInBounds_toArray, List.set_cons_zero, List.set_cons_succ, e11, e13, e0, e1, e2, e3, e4, e5, e6, e7, e8, e9, e10, e12] at hK ⊢
                have HK := Lib.hid hK
                clear hK hA
                refine wpOp_want rfl (by rfl) ?_
                go_simp
                exact HK.out _ _ (Below.refl _ _) rfl
              case he =>
                rintro T W hb hA
                have f12 : T 12 = .int .i64 0 := hA.at 12 (by decide)
                have f13 : T 13 = sv [] := hA.at 13 (by decide)
                have f14 : T 14 = .int .i64 21 := hA.at 14 (by decide)
                simp only [ovr, List.setIfInBounds_toArray, List.set_cons_zero, List.set_cons_succ, f12, f13, f14]
                have hr2w := ((hr2.mono hk HN24.out).mono hk5 HN24.out).below hb
                have hr5 := hr5.below hb
                have hown := hown.mono hb
                have hbq := Below.step hbq hb (Nat.le_refl _)
                obtain ⟨p0, p1, p2, g0, g1, g2⟩ := Row3 hr2w
                obtain ⟨q0, q1, q2, f0, f1, f2⟩ := Row3 hr5
                have hn2 : w.heap.size + 1 < wo.heap.size := (hr2.mono hk HN24.out).lt
                clear x0 x1 x2 hb hA f12 f13 f14
                go_wp2
                obtain ⟨k0, k1, k2, _, _, _⟩ := Row3 (hr2w.put3 (.int .i64 hn) (.int .i64 b) (.slice ao l.length cap))
                have hkz := (((Kept.refl (G := fun b => b = w.heap.size + 1) W).setCell (p := ⟨w.heap.size + 1, 0, none⟩) rfl (.int .i64 hn)).setCell (p := ⟨w.heap.size + 1, 1, none⟩) rfl (.int .i64 b)).setCell (p := ⟨w.heap.size + 1, 2, none⟩) rfl (.slice ao l.length cap)
                refine bodyPost_ret (v := .tuple #[.agg #[.int .i64 hn, .int .i64 b, .slice ao l.length cap], .int .i64 0]) (by simp [results, Tryz.results40, go_sem, k0, k1, k2]) rfl ⟨.inr ⟨_, HLG.out, _, rfl, ?_⟩, ?_⟩
                · show OwnV _ _ _ _ (svs (Wl.recs d.now (S - 2) (S - 2) b))
                  rw [HS.out]
                  exact (hown.kept hkz (fun g hg => by rw [hg]; exact hn2)).weak hbw.size
                · exact hbq.trans (hkz.below (fun g hg => by rw [hg]; omega) hbq.size)
            | some y =>
              obtain ⟨n, r⟩ := y
              have hrec := Wl.dec_some.1 hdc
              have hnl := hrec.n_le
              unfold Wl.lim at hnl
              have hrl := hrec.r_le
              have hR := fun (W : World) (hE : Env W) => rDecode_some _ n r W hsl (Lib.hid hrec) hE
              by_cases hn' : n = b + l.length
              · have HS : Hid (Wl.recs d.now (S - 2) (S - 2) b = (l ++ [r]) ++ Wl.recs d.now (S - 2) (S - 2 - (l ++ [r]).length) (b + (l ++ [r]).length)) := Lib.hid (by
                  rw [HR.out, hf, Wl.recs_more (r := r) (by rw [HQ.out, ← hn']; exact hdc), List.length_append, List.length_singleton, show S - 2 - (l.length + 1) = f by omega, ← Nat.add_assoc]; simp)
                have hne : ((n : Int) != (b : Int) + (l.length : Int)) = false := by simp; omega
                clear hf hn' hdc hrec
                generalize d.now.getD q [] = s at ca hR hsl
                have hS := hS4 s ca
                go_upto_region 16 with fail
                refine wp_region_vals (wx := wr) [(fun _ v => v = .pointer (some ⟨w.heap.size, 0, none⟩)), (fun _ v => v = .slice (some ⟨bb, off, none⟩) S m1), (fun _ v => v = .agg #[.slice (some ⟨bb, off, none⟩) S m1, .slice a2 S m2, .slice a3 S m3]), (fun _ v => v = .int .i64 ((b : Int) + (l.length : Int))), (fun _ v => v = .int .i64 q), (fun _ v => v = .pointer (some ⟨bb, off + q, none⟩)), (fun _ v => v = sv s), (fun _ v => v = .tuple #[.int .i64 n, sv r, .int .i64 0]), (fun _ v => v = .tuple #[.int .i64 n, sv r, .int .i64 0]), (fun _ v => v = .int .i64 n), (fun _ v => v = sv r), (fun _ v => v = .int .i64 0), (fun _ v => v = .int .i64 n), (fun _ v => v = sv r), (fun _ v => v = .int .i64 0)] [77, 78, 79, 80, 81, 82, 83, 84, 76, 85, 86, 87, 12, 13, 14] (by kernel_rfl) (by kernel_rfl) (by kernel_rfl) (of_decide_eq_true (by kernel_rfl)) (Below.refl _ _) ⟨stayB_val _, stayB_val _, stayB_val _, stayB_val _, stayB_val _, stayB_val _, stayB_val _, stayB_val _, stayB_val _, stayB_val _, stayB_val _, stayB_val _, stayB_val _, stayB_val _, stayB_val _, trivial⟩ ⟨?s0, ?s1, ?s2, ?s3, ?s4, ?s5, ?s6, ?s7, ?s8, ?s9, ?s10, ?s11, ?s12, ?s13, ?s14, trivial⟩ ?he
                case s0 =>
                  rintro T W hb hA K hK
                  simp only [ovr, Act.put, List.setIfInBounds_toArray, List.set_cons_zero, List.set_cons_succ] at hK ⊢
                  have HK := Lib.hid hK
                  clear hK hA
                  refine wpOp_want rfl (by rfl) ?_
                  go_simp
                  exact HK.out _ _ (Below.refl _ _) rfl
                case s1 =>
                  rintro T W hb hA K hK
                  have e0 : T 77 = .pointer (some ⟨w.heap.size, 0, none⟩) := hA.1
                  simp only [ovr, Act.put, List.setIfInBounds_toArray, List.set_cons_zero, List.set_cons_succ, e0] at hK ⊢
                  have HK := Lib.hid hK
                  clear hK hA
                  obtain ⟨c0, c1, c2, c3⟩ := hS W hb
                  refine wpOp_want rfl (by rfl) ?_
                  go_simp
                  exact HK.out _ _ (Below.refl _ _) rfl
                case s2 =>
                  rintro T W hb hA K hK
                  simp only [ovr, Act.put, List.setIfInBounds_toArray, List.set_cons_zero, List.set_cons_succ] at hK ⊢
                  have HK := Lib.hid hK
                  clear hK hA
                  obtain ⟨c0, c1, c2, c3⟩ := hS W hb
                  refine wpOp_want rfl (by rfl) ?_
                  go_simp
                  exact HK.out _ _ (Below.refl _ _) rfl
                case s3 =>
                  rintro T W hb hA K hK
                  simp only [ovr, Act.put, List.setIfInBounds_toArray, List.set_cons_zero, List.set_cons_succ] at hK ⊢
                  have HK := Lib.hid hK
                  clear hK hA
                  refine wpOp_want rfl (by rfl) ?_
                  go_simp
                  exact HK.out _ _ (Below.refl _ _) rfl
                case s4 =>
                  rintro T W hb hA K hK
                  have e2 : T 79 = .agg #[.slice (some ⟨bb, off, none⟩) S m1, .slice a2 S m2, .slice a3 S m3] := hA.1
                  have e3 : T 80 = .int .i64 ((b : Int) + (l.length : Int)) := hA.2.1
                  simp only [ovr, Act.put, List.setIfInBounds_toArray, List.set_cons_zero, List.set_cons_succ, e2, e3] at hK ⊢
                  have HK := Lib.hid hK
                  clear hK hA
                  refine wpOp_want rfl (by rfl) ?_
                  go_simp
                  (with_reducible refine (hP W).mono ?_)
                  rintro e w1 ⟨rfl, hb1⟩
                  dsimp only
                  exact HK.out _ _ hb1 rfl
                case s5 =>
                  rintro T W hb hA K hK
                  have e1 : T 78 = .slice (some ⟨bb, off, none⟩) S m1 := hA.1
                  have e4 : T 81 = .int .i64 q := hA.2.1
                  simp only [ovr, Act.put, List.setIfInBounds_toArray, List.set_cons_zero, List.set_cons_succ, e1, e4] at hK ⊢
                  have HK := Lib.hid hK
                  clear hK hA
                  refine wpOp_want rfl (by rfl) ?_
                  go_simp
                  exact HK.out _ _ (Below.refl _ _) rfl
                case s6 =>
                  rintro T W hb hA K hK
                  have e5 : T 82 = .pointer (some ⟨bb, off + q, none⟩) := hA.1
                  simp only [ovr, Act.put, List.setIfInBounds_toArray, List.set_cons_zero, List.set_cons_succ, e5] at hK ⊢
                  have HK := Lib.hid hK
                  clear hK hA
                  obtain ⟨c0, c1, c2, c3⟩ := hS W hb
                  refine wpOp_want rfl (by rfl) ?_
                  go_simp
                  exact HK.out _ _ (Below.refl _ _) rfl
                case s7 =>
                  rintro T W hb hA K hK
                  have e6 : T 83 = sv s := hA.1
                  have e4 : T 81 = .int .i64 q := hA.2.1
                  simp only [ovr, Act.put, List.setIfInBounds_toArray, List.set_cons_zero, List.set_cons_succ, e6, e4] at hK ⊢
                  have HK := Lib.hid hK
                  clear hK hA
                  refine wpOp_want rfl (by rfl) ?_
                  go_simp
                  (with_reducible refine (hR W (hE5.mono hb)).mono ?_)
                  rintro e w1 ⟨rfl, hb1⟩
                  dsimp only
                  exact HK.out _ _ hb1 rfl
                case s8 =>
                  rintro T W hb hA K hK
                  have e7 : T 84 = .tuple #[.int .i64 n, sv r, .int .i64 0] := hA.1
                  simp only [ovr, Act.put, List.setIfInBounds_toArray, List.set_cons_zero, List.set_cons_succ, e7] at hK ⊢
                  have HK := Lib.hid hK
                  clear hK hA
                  refine wpOp_want rfl (by rfl) ?_
                  go_simp
                  exact HK.out _ _ (Below.refl _ _) rfl
                case s9 =>
                  rintro T W hb hA K hK
                  have e8 : T 76 = .tuple #[.int .i64 n, sv r, .int .i64 0] := hA.1
                  simp only [ovr, Act.put, List.setIfInBounds_toArray, List.set_cons_zero, List.set_cons_succ, e8] at hK ⊢
                  have HK := Lib.hid hK
                  clear hK hA
                  refine wpOp_want rfl (by rfl) ?_
                  go_simp
                  exact HK.out _ _ (Below.refl _ _) rfl
                case s10 =>
                  rintro T W hb hA K hK
                  have e8 : T 76 = .tuple #[.int .i64 n, sv r, .int .i64 0] := hA.1
                  simp only [ovr, Act.put, List.setIfInBounds_toArray, List.set_cons_zero, List.set_cons_succ, e8] at hK ⊢
                  have HK := Lib.hid hK
                  clear hK hA
                  refine wpOp_want rfl (by rfl) ?_
                  go_simp
                  exact HK.out _ _ (Below.refl _ _) rfl
                case s11 =>
                  rintro T W hb hA K hK
                  have e8 : T 76 = .tuple #[.int .i64 n, sv r, .int .i64 0] := hA.1
                  simp only [ovr, Act.put, List.setIfInBounds_toArray, List.set_cons_zero, List.set_cons_succ, e8] at hK ⊢
                  have HK := Lib.hid hK
                  clear hK hA
                  refine wpOp_want rfl (by rfl) ?_
                  go_simp
                  exact HK.out _ _ (Below.refl _ _) rfl
                case s12 =>
                  rintro T W hb hA K hK
                  have e9 : T 85 = .int .i64 n := hA.1
                  have e7 : T 84 = .tuple #[.int .i64 n, sv r, .int .i64 0] := hA.2.1
                  have e0 : T 77 = .pointer (some ⟨w.heap.size, 0, none⟩) := hA.2.2.1
                  have e1 : T 78 = .slice (some ⟨bb, off, none⟩) S m1 := hA.2.2.2.1
                  have e2 : T 79 = .agg #[.slice (some ⟨bb, off, none⟩) S m1, .slice a2 S m2, .slice a3 S m3] := hA.2.2.2.2.1
                  have e3 : T 80 = .int .i64 ((b : Int) + (l.length : Int)) := hA.2.2.2.2.2.1
                  have e4 : T 81 = .int .i64 q := hA.2.2.2.2.2.2.1
                  have e5 : T 82 = .pointer (some ⟨bb, off + q, none⟩) := hA.2.2.2.2.2.2.2.1
                  have e6 : T 83 = sv s := hA.2.2.2.2.2.2.2.2.1
                  have e8 : T 76 = .tuple #[.int .i64 n, sv r, .int .i64 0] := hA.2.2.2.2.2.2.2.2.2.2.1
                  simp only [ovr, Act.put, List.setIfInBounds_toArray, List.set_cons_zero, List.set_cons_succ, e9, e7, e0, e1, e2, e3, e4, e5, e6, e8] at hK ⊢
                  have HK := Lib.hid hK
                  clear hK hA
                  refine wpOp_want rfl (by rfl) ?_
                  go_simp
                  exact HK.out _ _ (Below.refl _ _) rfl
                case s13 =>
                  rintro T W hb hA K hK
                  have e10 : T 86 = sv r := hA.1
                  have e12 : T 12 = .int .i64 n := hA.2.1
                  have e0 : T 77 = .pointer (some ⟨w.heap.size, 0, none⟩) := hA.2.2.1
                  have e1 : T 78 = .slice (some ⟨bb, off, none⟩) S m1 := hA.2.2.2.1
                  have e2 : T 79 = .agg #[.slice (some ⟨bb, off, none⟩) S m1, .slice a2 S m2, .slice a3 S m3] := hA.2.2.2.2.1
                  have e3 : T 80 = .int .i64 ((b : Int) + (l.length : Int)) := hA.2.2.2.2.2.1
                  have e4 : T 81 = .int .i64 q := hA.2.2.2.2.2.2.1
                  have e5 : T 82 = .pointer (some ⟨bb, off + q, none⟩) := hA.2.2.2.2.2.2.2.1
                  have e6 : T 83 = sv s := hA.2.2.2.2.2.2.2.2.1
                  have e7 : T 84 = .tuple #[.int .i64 n, sv r, .int .i64 0] := hA.2.2.2.2.2.2.2.2.2.1
                  have e8 : T 76 = .tuple #[.int .i64 n, sv r, .int .i64 0] := hA.2.2.2.2.2.2.2.2.2.2.1
                  have e9 : T 85 = .int .i64 n := hA.2.2.2.2.2.2.2.2.2.2.2.1
                  simp only [ovr, Act.put, List.setIfInBounds_toArray, List.set_cons_zero, List.set_cons_succ, e10, e12, e0, e1, e2, e3, e4, e5, e6, e7, e8, e9] at hK ⊢
                  have HK := Lib.hid hK
                  clear hK hA
                  refine wpOp_want rfl (by rfl) ?_
                  go_simp
                  exact HK.out _ _ (Below.refl _ _) rfl
                case s14 =>
                  rintro T W hb hA K hK
                  have e11 : T 87 = .int .i64 0 := hA.1
                  have e13 : T 13 = sv r := hA.2.1
                  have e0 : T 77 = .pointer (some ⟨w.heap.size, 0, none⟩) := hA.2.2.1
                  have e1 : T 78 = .slice (some ⟨bb, off, none⟩) S m1 := hA.2.2.2.1
                  have e2 : T 79 = .agg #[.slice (some ⟨bb, off, none⟩) S m1, .slice a2 S m2, .slice a3 S m3] := hA.2.2.2.2.1
                  have e3 : T 80 = .int .i64 ((b : Int) + (l.length : Int)) := hA.2.2.2.2.2.1
                  have e4 : T 81 = .int .i64 q := hA.2.2.2.2.2.2.1
                  have e5 : T 82 = .pointer (some ⟨bb, off + q, none⟩) := hA.2.2.2.2.2.2.2.1
                  have e6 : T 83 = sv s := hA.2.2.2.2.2.2.2.2.1
                  have e7 : T 84 = .tuple #[.int .i64 n, sv r, .int .i64 0] := hA.2.2.2.2.2.2.2.2.2.1
                  have e8 : T 76 = .tuple #[.int .i64 n, sv r, .int .i64 0] := hA.2.2.2.2.2.2.2.2.2.2.1
                  have e9 : T 85 = .int .i64 n := hA.2.2.2.2.2.2.2.2.2.2.2.1
                  have e10 : T 86 = sv r := hA.2.2.2.2.2.2.2.2.2.2.2.2.1
                  have e12 : T 12 = .int .i64 n := hA.2.2.2.2.2.2.2.2.2.2.2.2.2.2.1
                  simp only [ovr, Act.put, List.setIfInBounds_toArray, List.set_cons_zero, List.set_cons_succ, e11, e13, e0, e1, e2, e3, e4, e5, e6, e7, e8, e9, e10, e12] at hK ⊢
                  have HK := Lib.hid hK
                  clear hK hA
                  refine wpOp_want rfl (by rfl) ?_
                  go_simp
                  exact HK.out _ _ (Below.refl _ _) rfl
                case he =>
                  rintro T W hb hA
                  have f12 : T 12 = .int .i64 n := hA.at 12 (by decide)
                  have f13 : T 13 = sv r := hA.at 13 (by decide)
                  have f14 : T 14 = .int .i64 0 := hA.at 14 (by decide)
                  simp only [ovr, List.setIfInBounds_toArray, List.set_cons_zero, List.set_cons_succ, f12, f13, f14]
                  have hr5 := hr5.below hb
                  have hown := hown.mono hb
                  have hk5 := hk5.trans (.of_below (G := fun g => g = n4) hb)
                  obtain ⟨q0, q1, q2, f0, f1, f2⟩ := Row3 hr5
                  have hwoW := hk5.size
                  have hn4 : n4 < wo.heap.size := hsz
                  clear x0 x1 x2 hb hA f12 f13 f14
                  go_wp2_with (at_builtin; refine Classical.byContradiction fun hcon => ?_)
                  refine hcon ?_
                  clear hcon
                  refine app_v2 _ (sv r) 25 9 16 (.string ⟨#[]⟩) rfl (.tmp 96) (.tmp 98) rfl Tryz.underlying25 Tryz.info9 rfl (by omega) wo.heap.size _ (svs l) rfl hown hwoW rfl rfl (by simp; omega) ?_
                  intro v3 w3 hown3 hk3
                  have hk6 : Kept (fun g => g = n4) wo w3 := hk5.thenB hk3
                  have hr6 := hr5.mono hk3 (show ¬ wo.heap.size ≤ n4 by omega)
                  obtain ⟨t0, t1, t2, u0, u1, u2⟩ := Row3 hr6
                  have hown4 : OwnV w3 wo.heap.size 9 v3 (svs (l ++ [r])) := by simpa using hown3
                  obtain ⟨ao3, cap3, rfl, hcap3, -⟩ := hown4.read
                  rw [show (svs (l ++ [r])).length = l.length + 1 by simp] at hown4 hcap3 ⊢
                  go_wp2
                  have hr7 := hr6.set 2 (.slice ao3 (l.length + 1) cap3)
                  simp only [List.set_cons_succ, List.set_cons_zero] at hr7
                  have hk7 := hk6.setCell (p := ⟨n4, 2, none⟩) rfl (.slice ao3 (l.length + 1) cap3)
                  have hown7 := hown4.kept ((Kept.refl (G := fun g => g = n4) w3).setCell (p := ⟨n4, 2, none⟩) rfl (.slice ao3 (l.length + 1) cap3)) (fun g hg => by rw [hg]; exact hn4)
                  go_roundw
                  case rel => exact ⟨l ++ [r], _, by simp; omega, hown7, hr7, hk7, HS⟩
                  case measure =>
                    have z2 := (Row3 hr7).2.2.1
                    have hsx : vlen ((wr.cell? ⟨n4, 2, none⟩).getD undef) = l.length := by rw [hq2r]; rfl
                    have hsy : vlen (((w3.setCell ⟨n4, 2, none⟩ (.slice ao3 (l.length + 1) cap3)).cell? ⟨n4, 2, none⟩).getD undef) = l.length + 1 := by rw [z2]; rfl
                    rw [hsx, hsy]
                    omega
              · have HS : Hid (Wl.recs d.now (S - 2) (S - 2) b = l) := Lib.hid (by rw [HR.out, hf, Wl.recs_other (n := n) (r := r) (by rw [HQ.out]; exact hdc) hn', List.append_nil])
                have hne : ((n : Int) != (b : Int) + (l.length : Int)) = true := by simp; omega
                clear hf hn' hdc hrec
                generalize d.now.getD q [] = s at ca hR hsl
                have hS := hS4 s ca
                go_upto_region 16 with fail
                refine wp_region_vals (wx := wr) [(fun _ v => v = .pointer (some ⟨w.heap.size, 0, none⟩)), (fun _ v => v = .slice (some ⟨bb, off, none⟩) S m1), (fun _ v => v = .agg #[.slice (some ⟨bb, off, none⟩) S m1, .slice a2 S m2, .slice a3 S m3]), (fun _ v => v = .int .i64 ((b : Int) + (l.length : Int))), (fun _ v => v = .int .i64 q), (fun _ v => v = .pointer (some ⟨bb, off + q, none⟩)), (fun _ v => v = sv s), (fun _ v => v = .tuple #[.int .i64 n, sv r, .int .i64 0]), (fun _ v => v = .tuple #[.int .i64 n, sv r, .int .i64 0]), (fun _ v => v = .int .i64 n), (fun _ v => v = sv r), (fun _ v => v = .int .i64 0), (fun _ v => v = .int .i64 n), (fun _ v => v = sv r), (fun _ v => v = .int .i64 0)] [77, 78, 79, 80, 81, 82, 83, 84, 76, 85, 86, 87, 12, 13, 14] (by kernel_rfl) (by kernel_rfl) (by kernel_rfl) (of_decide_eq_true (by kernel_rfl)) (Below.refl _ _) ⟨stayB_val _, stayB_val _, stayB_val _, stayB_val _, stayB_val _, stayB_val _, stayB_val _, stayB_val _, stayB_val _, stayB_val _, stayB_val _, stayB_val _, stayB_val _, stayB_val _, stayB_val _, trivial⟩ ⟨?s0, ?s1, ?s2, ?s3, ?s4, ?s5, ?s6, ?s7, ?s8, ?s9, ?s10, ?s11, ?s12, ?s13, ?s14, trivial⟩ ?he
                case s0 =>
                  rintro T W hb hA K hK
                  simp only [ovr, Act.put, List.setIfInBounds_toArray, List.set_cons_zero, List.set_cons_succ] at hK ⊢
                  have HK := Lib.hid hK
                  clear hK hA
                  refine wpOp_want rfl (by rfl) ?_
                  go_simp
                  exact HK.out _ _ (Below.refl _ _) rfl
                case s1 =>
                  rintro T W hb hA K hK
                  have e0 : T 77 = .pointer (some ⟨w.heap.size, 0, none⟩) := hA.1
                  simp only [ovr, Act.put, List.setIfInBounds_toArray, List.set_cons_zero, List.set_cons_succ, e0] at hK ⊢
                  have HK := Lib.hid hK
                  clear hK hA
                  obtain ⟨c0, c1, c2, c3⟩ := hS W hb
                  refine wpOp_want rfl (by rfl) ?_
                  go_simp
                  exact HK.out _ _ (Below.refl _ _) rfl
                case s2 =>
                  rintro T W hb hA K hK
                  simp only [ovr, Act.put, List.setIfInBounds_toArray, List.set_cons_zero, List.set_cons_succ] at hK ⊢
                  have HK := Lib.hid hK
                  clear hK hA
                  obtain ⟨c0, c1, c2, c3⟩ := hS W hb
                  refine wpOp_want rfl (by rfl) ?_
                  go_simp
                  exact HK.out _ _ (Below.refl _ _) rfl
                case s3 =>
                  rintro T W hb hA K hK
                  simp only [ovr, Act.put, List.setIfInBounds_toArray, List.set_cons_zero, List.set_cons_succ] at hK ⊢
                  have HK := Lib.hid hK
                  clear hK hA
                  refine wpOp_want rfl (by rfl) ?_
                  go_simp
                  exact HK.out _ _ (Below.refl _ _) rfl
                case s4 =>
                  rintro T W hb hA K hK
                  have e2 : T 79 = .agg #[.slice (some ⟨bb, off, none⟩) S m1, .slice a2 S m2, .slice a3 S m3] := hA.1
                  have e3 : T 80 = .int .i64 ((b : Int) + (l.length : Int)) := hA.2.1
                  simp only [ovr, Act.put, List.setIfInBounds_toArray, List.set_cons_zero, List.set_cons_succ, e2, e3] at hK ⊢
                  have HK := Lib.hid hK
                  clear hK hA
                  refine wpOp_want rfl (by rfl) ?_
                  go_simp
                  (with_reducible refine (hP W).mono ?_)
                  rintro e w1 ⟨rfl, hb1⟩
                  dsimp only
                  exact HK.out _ _ hb1 rfl
                case s5 =>
                  rintro T W hb hA K hK
                  have e1 : T 78 = .slice (some ⟨bb, off, none⟩) S m1 := hA.1
                  have e4 : T 81 = .int .i64 q := hA.2.1
                  simp only [ovr, Act.put, List.setIfInBounds_toArray, List.set_cons_zero, List.set_cons_succ, e1, e4] at hK ⊢
                  have HK := Lib.hid hK
                  clear hK hA
                  refine wpOp_want rfl (by rfl) ?_
                  go_simp
                  exact HK.out _ _ (Below.refl _ _) rfl
                case s6 =>
                  rintro T W hb hA K hK
                  have e5 : T 82 = .pointer (some ⟨bb, off + q, none⟩) := hA.1
                  simp only [ovr, Act.put, List.setIfInBounds_toArray, List.set_cons_zero, List.set_cons_succ, e5] at hK ⊢
                  have HK := Lib.hid hK
                  clear hK hA
                  obtain ⟨c0, c1, c2, c3⟩ := hS W hb
                  refine wpOp_want rfl (by rfl) ?_
                  go_simp
                  exact HK.out _ _ (Below.refl _ _) rfl
                case s7 =>
                  rintro T W hb hA K hK
                  have e6 : T 83 = sv s := hA.1
                  have e4 : T 81 = .int .i64 q := hA.2.1
                  simp only [ovr, Act.put, List.setIfInBounds_toArray, List.set_cons_zero, List.set_cons_succ, e6, e4] at hK ⊢
                  have HK := Lib.hid hK
                  clear hK hA
                  refine wpOp_want rfl (by rfl) ?_
                  go_simp
                  (with_reducible refine (hR W (hE5.mono hb)).mono ?_)
                  rintro e w1 ⟨rfl, hb1⟩
                  dsimp only
                  exact HK.out _ _ hb1 rfl
                case s8 =>
                  rintro T W hb hA K hK
                  have e7 : T 84 = .tuple #[.int .i64 n, sv r, .int .i64 0] := hA.1
                  simp only [ovr, Act.put, List.setIfInBounds_toArray, List.set_cons_zero, List.set_cons_succ, e7] at hK ⊢
                  have HK := Lib.hid hK
                  clear hK hA
                  refine wpOp_want rfl (by rfl) ?_
                  go_simp
                  exact HK.out _ _ (Below.refl _ _) rfl
                case s9 =>
                  rintro T W hb hA K hK
                  have e8 : T 76 = .tuple #[.int .i64 n, sv r, .int .i64 0] := hA.1
                  simp only [ovr, Act.put, List.setIfInBounds_toArray, List.set_cons_zero, List.set_cons_succ, e8] at hK ⊢
                  have HK := Lib.hid hK
                  clear hK hA
                  refine wpOp_want rfl (by rfl) ?_
                  go_simp
                  exact HK.out _ _ (Below.refl _ _) rfl
                case s10 =>
                  rintro T W hb hA K hK
                  have e8 : T 76 = .tuple #[.int .i64 n, sv r, .int .i64 0] := hA.1
                  simp only [ovr, Act.put, List.setIfInBounds_toArray, List.set_cons_zero, List.set_cons_succ, e8] at hK ⊢
                  have HK := Lib.hid hK
                  clear hK hA
                  refine wpOp_want rfl (by rfl) ?_
                  go_simp
                  exact HK.out _ _ (Below.refl _ _) rfl
                case s11 =>
                  rintro T W hb hA K hK
                  have e8 : T 76 = .tuple #[.int .i64 n, sv r, .int .i64 0] := hA.1
                  simp only [ovr, Act.put, List.setIfInBounds_toArray, List.set_cons_zero, List.set_cons_succ, e8] at hK ⊢
                  have HK := Lib.hid hK
                  clear hK hA
                  refine wpOp_want rfl (by rfl) ?_
                  go_simp
                  exact HK.out _ _ (Below.refl _ _) rfl
                case s12 =>
                  rintro T W hb hA K hK
                  have e9 : T 85 = .int .i64 n := hA.1
                  have e7 : T 84 = .tuple #[.int .i64 n, sv r, .int .i64 0] := hA.2.1
                  have e0 : T 77 = .pointer (some ⟨w.heap.size, 0, none⟩) := hA.2.2.1
                  have e1 : T 78 = .slice (some ⟨bb, off, none⟩) S m1 := hA.2.2.2.1
                  have e2 : T 79 = .agg #[.slice (some ⟨bb, off, none⟩) S m1, .slice a2 S m2, .slice a3 S m3] := hA.2.2.2.2.1
                  have e3 : T 80 = .int .i64 ((b : Int) + (l.length : Int)) := hA.2.2.2.2.2.1
                  have e4 : T 81 = .int .i64 q := hA.2.2.2.2.2.2.1
                  have e5 : T 82 = .pointer (some ⟨bb, off + q, none⟩) := hA.2.2.2.2.2.2.2.1
                  have e6 : T 83 = sv s := hA.2.2.2.2.2.2.2.2.1
                  have e8 : T 76 = .tuple #[.int .i64 n, sv r, .int .i64 0] := hA.2.2.2.2.2.2.2.2.2.2.1
                  simp only [ovr, Act.put, List.setIfInBounds_toArray, List.set_cons_zero, List.set_cons_succ, e9, e7, e0, e1, e2, e3, e4, e5, e6, e8] at hK ⊢
                  have HK := Lib.hid hK
                  clear hK hA
                  refine wpOp_want rfl (by rfl) ?_
                  go_simp
                  exact HK.out _ _ (Below.refl _ _) rfl
                case s13 =>
                  rintro T W hb hA K hK
                  have e10 : T 86 = sv r := hA.1
                  have e12 : T 12 = .int .i64 n := hA.2.1
                  have e0 : T 77 = .pointer (some ⟨w.heap.size, 0, none⟩) := hA.2.2.1
                  have e1 : T 78 = .slice (some ⟨bb, off, none⟩) S m1 := hA.2.2.2.1
                  have e2 : T 79 = .agg #[.slice (some ⟨bb, off, none⟩) S m1, .slice a2 S m2, .slice a3 S m3] := hA.2.2.2.2.1
                  have e3 : T 80 = .int .i64 ((b : Int) + (l.length : Int)) := hA.2.2.2.2.2.1
                  have e4 : T 81 = .int .i64 q := hA.2.2.2.2.2.2.1
                  have e5 : T 82 = .pointer (some ⟨bb, off + q, none⟩) := hA.2.2.2.2.2.2.2.1
                  have e6 : T 83 = sv s := hA.2.2.2.2.2.2.2.2.1
                  have e7 : T 84 = .tuple #[.int .i64 n, sv r, .int .i64 0] := hA.2.2.2.2.2.2.2.2.2.1
                  have e8 : T 76 = .tuple #[.int .i64 n, sv r, .int .i64 0] := hA.2.2.2.2.2.2.2.2.2.2.1
                  have e9 : T 85 = .int .i64 n := hA.2.2.2.2.2.2.2.2.2.2.2.1
                  simp only [ovr, Act.put, List.setIfInBounds_toArray, List.set_cons_zero, List.set_cons_succ, e10, e12, e0, e1, e2, e3, e4, e5, e6, e7, e8, e9] at hK ⊢
                  have HK := Lib.hid hK
                  clear hK hA
                  refine wpOp_want rfl (by rfl) ?_
                  go_simp
                  exact HK.out _ _ (Below.refl _ _) rfl
                case s14 =>
                  rintro T W hb hA K hK
                  have e11 : T 87 = .int .i64 0 := hA.1
                  have e13 : T 13 = sv r := hA.2.1
                  have e0 : T 77 = .pointer (some ⟨w.heap.size, 0, none⟩) := hA.2.2.1
                  have e1 : T 78 = .slice (some ⟨bb, off, none⟩) S m1 := hA.2.2.2.1
                  have e2 : T 79 = .agg #[.slice (some ⟨bb, off, none⟩) S m1, .slice a2 S m2, .slice a3 S m3] := hA.2.2.2.2.1
                  have e3 : T 80 = .int .i64 ((b : Int) + (l.length : Int)) := hA.2.2.2.2.2.1
                  have e4 : T 81 = .int .i64 q := hA.2.2.2.2.2.2.1
                  have e5 : T 82 = .pointer (some ⟨bb, off + q, none⟩) := hA.2.2.2.2.2.2.2.1
                  have e6 : T 83 = sv s := hA.2.2.2.2.2.2.2.2.1
                  have e7 : T 84 = .tuple #[.int .i64 n, sv r, .int .i64 0] := hA.2.2.2.2.2.2.2.2.2.1
                  have e8 : T 76 = .tuple #[.int .i64 n, sv r, .int .i64 0] := hA.2.2.2.2.2.2.2.2.2.2.1
                  have e9 : T 85 = .int .i64 n := hA.2.2.2.2.2.2.2.2.2.2.2.1
                  have e10 : T 86 = sv r := hA.2.2.2.2.2.2.2.2.2.2.2.2.1
                  have e12 : T 12 = .int .i64 n := hA.2.2.2.2.2.2.2.2.2.2.2.2.2.2.1
                  simp only [ovr, Act.put, List.setIfInBounds_toArray, List.set_cons_zero, List.set_cons_succ, e11, e13, e0, e1, e2, e3, e4, e5, e6, e7, e8, e9, e10, e12] at hK ⊢
                  have HK := Lib.hid hK
                  clear hK hA
                  refine wpOp_want rfl (by rfl) ?_
                  go_simp
                  exact HK.out _ _ (Below.refl _ _) rfl
                case he =>
                  rintro T W hb hA
                  have f12 : T 12 = .int .i64 n := hA.at 12 (by decide)
                  have f13 : T 13 = sv r := hA.at 13 (by decide)
                  have f14 : T 14 = .int .i64 0 := hA.at 14 (by decide)
                  simp only [ovr, List.setIfInBounds_toArray, List.set_cons_zero, List.set_cons_succ, f12, f13, f14]
                  have hr2w := ((hr2.mono hk HN24.out).mono hk5 HN24.out).below hb
                  have hr5 := hr5.below hb
                  have hown := hown.mono hb
                  have hbq := Below.step hbq hb (Nat.le_refl _)
                  obtain ⟨p0, p1, p2, g0, g1, g2⟩ := Row3 hr2w
                  obtain ⟨q0, q1, q2, f0, f1, f2⟩ := Row3 hr5
                  have hn2 : w.heap.size + 1 < wo.heap.size := (hr2.mono hk HN24.out).lt
                  clear x0 x1 x2 hb hA f12 f13 f14
                  go_wp2
                  obtain ⟨k0, k1, k2, _, _, _⟩ := Row3 (hr2w.put3 (.int .i64 hn) (.int .i64 b) (.slice ao l.length cap))
                  have hkz := (((Kept.refl (G := fun b => b = w.heap.size + 1) W).setCell (p := ⟨w.heap.size + 1, 0, none⟩) rfl (.int .i64 hn)).setCell (p := ⟨w.heap.size + 1, 1, none⟩) rfl (.int .i64 b)).setCell (p := ⟨w.heap.size + 1, 2, none⟩) rfl (.slice ao l.length cap)
                  refine bodyPost_ret (v := .tuple #[.agg #[.int .i64 hn, .int .i64 b, .slice ao l.length cap], .int .i64 0]) (by simp [results, Tryz.results40, go_sem, k0, k1, k2]) rfl ⟨.inr ⟨_, HLG.out, _, rfl, ?_⟩, ?_⟩
                  · show OwnV _ _ _ _ (svs (Wl.recs d.now (S - 2) (S - 2) b))
                    rw [HS.out]
                    exact (hown.kept hkz (fun g hg => by rw [hg]; exact hn2)).weak hbw.size
                  · exact hbq.trans (hkz.below (fun g hg => by rw [hg]; omega) hbq.size)
          · have HS : Hid (Wl.recs d.now (S - 2) (S - 2) b = l) := Lib.hid (by rw [HR.out, show S - 2 - l.length = 0 by omega]; simp [Wl.recs])
            have hlt' : decide ((l.length : Int) < (S : Int) - 2) = false := by simp; omega
            have hr2w := (hr2.mono hk HN24.out).mono hk5 HN24.out
            obtain ⟨p0, p1, p2, g0, g1, g2⟩ := Row3 hr2w
            have hn2 : w.heap.size + 1 < wo.heap.size := (hr2.mono hk HN24.out).lt
            clear hlt
            go_wp2
            obtain ⟨k0, k1, k2, _, _, _⟩ := Row3 (hr2w.put3 (.int .i64 hn) (.int .i64 b) (.slice ao l.length cap))
            have hkz := (((Kept.refl (G := fun b => b = w.heap.size + 1) wr).setCell (p := ⟨w.heap.size + 1, 0, none⟩) rfl (.int .i64 hn)).setCell (p := ⟨w.heap.size + 1, 1, none⟩) rfl (.int .i64 b)).setCell (p := ⟨w.heap.size + 1, 2, none⟩) rfl (.slice ao l.length cap)
            refine bodyPost_ret (v := .tuple #[.agg #[.int .i64 hn, .int .i64 b, .slice ao l.length cap], .int .i64 0]) (by simp [results, Tryz.results40, go_sem, k0, k1, k2]) rfl ⟨.inr ⟨_, HLG.out, _, rfl, ?_⟩, ?_⟩
            · show OwnV _ _ _ _ (svs (Wl.recs d.now (S - 2) (S - 2) b))
              rw [HS.out]
              exact (hown.kept hkz (fun g hg => by rw [hg]; exact hn2)).weak hbw.size
            · exact hbq.trans (hkz.below (fun g hg => by rw [hg]; omega) hbq.size)
end

end Go.Proofs.YtackeigdehfmmaaGreatDoor
