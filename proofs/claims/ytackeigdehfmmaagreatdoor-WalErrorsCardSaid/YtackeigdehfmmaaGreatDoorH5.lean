import Derived.Test.YtackeigdehfmmaaGreatDoorWitW
import Derived.Test.YtackeigdehfmmaaGreatDoorH1
import Derived.Deep.Slices
import Derived.SizedLaws
namespace Go.Proofs.YtackeigdehfmmaaGreatDoor
open Go.ChangeShapes Go.WideShapes Go.ChangeAt Go.RowKit Go.Deep

theorem spot_none {w : World} {a : Addr} {v : Value} (h : w.cell? a = some v) : a.spot = none := by
  unfold World.cell? at h
  cases hsp : a.spot with
  | none => rfl
  | some k => rw [hsp] at h; simp at h; split at h <;> simp at h

theorem add_plain' (b off i : Nat) : (⟨b, off, none⟩ : Addr).add i = ⟨b, off + i, none⟩ := by
  unfold Addr.add; split
  · subst i; rfl
  · rfl

theorem wf_u8 {n : Int} (h : (Lit.int .u8 n).wf = true) : 0 ≤ n ∧ n < 256 := by
  simp [Lit.wf, IntKind.min, IntKind.max, IntKind.signed, IntKind.bits] at h
  omega
theorem wf_i8 {n : Int} (h : (Lit.int .i8 n).wf = true) : -128 ≤ n ∧ n ≤ 127 := by
  simp [Lit.wf, IntKind.min, IntKind.max, IntKind.signed, IntKind.bits] at h
  omega
theorem list_four {α : Type} {l : List α} (h : l.length = 4) : ∃ x y z u, l = [x, y, z, u] := by
  match l, h with
  | [x, y, z, u], _ => exact ⟨x, y, z, u, rfl⟩

theorem cellsI8 : Tryz.prog.cellsOf 33 = 1 := by kernel_rfl
theorem cellsSt : Tryz.prog.cellsOf 9 = 1 := by kernel_rfl
theorem cellsSl : Tryz.prog.cellsOf 23 = 1 := by kernel_rfl
theorem cellsOp : Tryz.prog.cellsOf 35 = 4 := by kernel_rfl

/-- what bytes a slice holds -/
def BitsV (W : World) (v : Value) : Prop := ∃ (a : Option Addr) (l : List Nat) (c : Nat), v = .slice a l.length c ∧ RG W (fun _ => False) a (uvs l)

set_option maxRecDepth 100000 in
theorem open_bits {H : Type} {enc : TypeId × Value → H} {W : World} {r : Reach} {b0 : Nat} {v : Value} {d : DataW H} {p : List MemPlace} (hv : Value.okWide Tryz.prog W r b0 23 v) (h : DataW.Trod enc Tryz.prog W 0 (fun _ => true) true 23 v d p) : BitsV W v := by
  obtain ⟨a0, len0, cap0, rfl⟩ := okWide_slice Tryz.underlying23 hv
  obtain ⟨fuel, hf⟩ := h
  rcases open_ints Tryz.underlying23 Tryz.underlying5 cells8 hf with ⟨hcs, _⟩ | ⟨a, len, cap, zs, hcs, _, hl, hm, hz, _, hcell, hwz⟩
  · simp only [Value.cells, List.cons.injEq, Value.slice.injEq, and_true] at hcs
    obtain ⟨rfl, rfl, rfl⟩ := hcs
    exact ⟨none, [], 0, rfl, RG.nil _ _ _⟩
  · simp only [Value.cells, List.cons.injEq, Value.slice.injEq, and_true] at hcs
    obtain ⟨rfl, rfl, rfl⟩ := hcs
    rw [if_pos rfl] at hz
    have hlen : ((zs.take len0).map Int.toNat).length = len0 := by simp; omega
    refine ⟨some a, (zs.take len0).map Int.toNat, cap0, by rw [hlen], ?_⟩
    intro i x hx
    unfold uvs at hx
    rw [List.map_map, List.getElem?_map, Option.map_eq_some_iff] at hx
    obtain ⟨z, hz1, rfl⟩ := hx
    have hi : i < len0 := by
      obtain ⟨h1, _⟩ := List.getElem?_eq_some_iff.1 hz1
      simp at h1; omega
    rw [List.getElem?_take_of_lt hi] at hz1
    have c0 := hcell 0 (by omega)
    have ci := hcell i (by omega)
    have hsp : a.spot = none := by
      have : a.add 0 = a := by simp [Addr.add]
      rw [this] at c0
      exact spot_none c0
    obtain ⟨bb, off, sp⟩ := a
    simp only at hsp
    subst hsp
    rw [add_plain'] at ci
    have hw := wf_u8 (hwz z (List.mem_of_getElem? hz1))
    refine ⟨bb, off, rfl, fun h => h, ?_⟩
    rw [ci, List.getD_eq_getElem?_getD, hz1]
    simp only [Option.getD_some, Function.comp]
    congr 2
    omega

instance : Inhabited OpD := ⟨⟨0, 0, [], .bool false⟩⟩

/-- what operations a slice holds -/
def OpsV (W : World) (v : Value) : Prop := ∃ (a : Option Addr) (l : List OpD) (c : Nat), v = .slice a l.length c ∧ l.length ≤ 9223372036854775807 ∧ OpsR W a l

theorem op_cells {H : Type} {enc : TypeId × Value → H} {W : World} {t e : TypeId} {f0 f1 f2 f3 : Field} {n : Nat} {cs : List Value} {x : DataW H × List MemPlace} (hs : Tryz.prog.underlying t = some (.struct #[f0, f1, f2, f3])) (hct : Tryz.prog.cellsOf t = 4)
    (o0 : f0.offset = 0) (o1 : f1.offset = 1) (o2 : f2.offset = 2) (o3 : f3.offset = 3) (k0 : Tryz.prog.cellsOf f0.type = 1) (k1 : Tryz.prog.cellsOf f1.type = 1) (k2 : Tryz.prog.cellsOf f2.type = 1) (k3 : Tryz.prog.cellsOf f3.type = 1)
    (u0 : Tryz.prog.underlying f0.type = some (.int .u8)) (u1 : Tryz.prog.underlying f1.type = some (.int .i8)) (u2 : Tryz.prog.underlying f2.type = some .string) (u3 : Tryz.prog.underlying f3.type = some (.slice e)) (ue : Tryz.prog.underlying e = some (.int .u8)) (ke : Tryz.prog.cellsOf e = 1)
    (h : DataW.trod enc Tryz.prog W 0 (fun _ => true) true n t cs = some x) :
    ∃ o : OpD, cs = [.int .u8 o.k, .int .i8 o.at', sv o.text, o.bits] ∧ o.k < 256 ∧ (-128 ≤ o.at' ∧ o.at' ≤ 127) ∧ ∃ a n c, o.bits = .slice a n c := by
  obtain ⟨xs, m, _, _, hcl, hl2, hx⟩ := DataW.trod_struct hs h
  rw [hct] at hcl
  obtain ⟨x0, x1, x2, x3, rfl⟩ := list_four hcl
  obtain ⟨y0, y1, y2, y3, rfl⟩ := list_four hl2
  have t0 := hx 0 f0 rfl
  have t1 := hx 1 f1 rfl
  have t2 := hx 2 f2 rfl
  have t3 := hx 3 f3 rfl
  rw [o0, k0] at t0
  rw [o1, k1] at t1
  rw [o2, k2] at t2
  rw [o3, k3] at t3
  simp only [List.drop_zero, List.take_succ_cons, List.take_zero, List.drop_succ_cons, List.getElem?_cons_zero, List.getElem?_cons_succ] at t0 t1 t2 t3
  obtain ⟨z0, h0, _, w0⟩ := DataW.trod_int u0 t0
  obtain ⟨z1, h1, _, w1⟩ := DataW.trod_int u1 t1
  obtain ⟨s2, h2, _, _⟩ := DataW.trod_string u2 t2
  simp only [List.cons.injEq, and_true] at h0 h1 h2
  subst h0 h1 h2
  have v0 := wf_u8 w0
  have v1 := wf_i8 w1
  obtain ⟨k, rfl⟩ : ∃ k : Nat, z0 = k := ⟨z0.toNat, by omega⟩
  have h3 : ∃ a n c, x3 = .slice a n c := by
    rcases open_ints u3 ue ke t3 with ⟨hcs, _⟩ | ⟨a, len, cap, zs, hcs, _⟩
    · simp only [List.cons.injEq, and_true] at hcs
      exact ⟨_, _, _, hcs⟩
    · simp only [List.cons.injEq, and_true] at hcs
      exact ⟨_, _, _, hcs⟩
  exact ⟨⟨k, z1, s2.data.toList, x3⟩, rfl, by simp only; omega, v1, h3⟩

set_option maxRecDepth 100000 in
theorem open_op {H : Type} {enc : TypeId × Value → H} {W : World} {n : Nat} {cs : List Value} {x : DataW H × List MemPlace} (h : DataW.trod enc Tryz.prog W 0 (fun _ => true) true n 35 cs = some x) :
    ∃ o : OpD, cs = [.int .u8 o.k, .int .i8 o.at', sv o.text, o.bits] ∧ o.k < 256 ∧ (-128 ≤ o.at' ∧ o.at' ≤ 127) ∧ ∃ a n c, o.bits = .slice a n c :=
  op_cells Tryz.underlying35 cellsOp rfl rfl rfl rfl cells8 cellsI8 cellsSt cellsSl Tryz.underlying5 Tryz.underlying33 Tryz.underlying9 Tryz.underlying23 Tryz.underlying5 cells8 h

set_option maxRecDepth 100000 in
theorem open_ops {H : Type} {enc : TypeId × Value → H} {W : World} {r : Reach} {b0 : Nat} {v : Value} {d : DataW H} {p : List MemPlace} (hv : Value.okWide Tryz.prog W r b0 22 v) (h : DataW.Trod enc Tryz.prog W 0 (fun _ => true) true 22 v d p) : OpsV W v := by
  obtain ⟨a0, len0, cap0, rfl⟩ := okWide_slice Tryz.underlying22 hv
  obtain ⟨fuel, hf⟩ := h
  rcases open_slice Tryz.underlying22 hf with ⟨hcs, _⟩ | ⟨a, len, cap, m, n, D, Pl, hcs, _, hl, hm, hmm, _, hi⟩
  · simp only [Value.cells, List.cons.injEq, Value.slice.injEq, and_true] at hcs
    obtain ⟨rfl, rfl, rfl⟩ := hcs
    exact ⟨none, [], 0, rfl, by simp, fun i o h => by simp at h⟩
  · simp only [Value.cells, List.cons.injEq, Value.slice.injEq, and_true] at hcs
    obtain ⟨rfl, rfl, rfl⟩ := hcs
    rw [if_pos rfl] at hmm
    subst hmm
    rw [cellsOp] at hi
    have key : ∀ i, i < len0 → ∃ o : OpD, ∃ b off, a = ⟨b, off, none⟩ ∧ OpAt W b (off + i * 4) o := by
      intro i hlt
      obtain ⟨cs', hc, ht⟩ := hi i (by omega)
      obtain ⟨o, rfl, hk, hat, hb⟩ := open_op ht
      obtain ⟨_, _, hat'⟩ := World.cells?_some hc
      have g0 := hat' 0 (by omega)
      have g1 := hat' 1 (by omega)
      have g2 := hat' 2 (by omega)
      have g3 := hat' 3 (by omega)
      have hsp : a.spot = none := by
        obtain ⟨cs0, hc0, ht0⟩ := hi 0 (by omega)
        obtain ⟨o0, rfl, _⟩ := open_op ht0
        obtain ⟨_, _, hat0⟩ := World.cells?_some hc0
        have g := hat0 0 (by omega)
        have e1 : ∀ x : Addr, x.add 0 = x := fun x => by simp [Addr.add]
        rw [Nat.zero_mul, e1, e1, List.getElem?_cons_zero] at g
        exact spot_none g
      obtain ⟨b, off, sp⟩ := a
      simp only at hsp
      subst hsp
      rw [add_plain', add_plain'] at g0 g1 g2 g3
      simp only [List.getElem?_cons_zero, List.getElem?_cons_succ, Nat.add_zero] at g0 g1 g2 g3
      exact ⟨o, b, off, rfl, ⟨g0, g1, g2, g3, hk, hat, hb⟩⟩
    obtain ⟨O, hO⟩ := choose_lt (α := OpD) (p := fun i o => ∃ b off, a = ⟨b, off, none⟩ ∧ OpAt W b (off + i * 4) o) key
    refine ⟨some a, (List.range len0).map O, m, by simp, by simp; unfold maxLen at hm; omega, ?_⟩
    intro i o hio
    rw [List.getElem?_map, Option.map_eq_some_iff] at hio
    obtain ⟨j, hj, rfl⟩ := hio
    obtain ⟨hj1, hj2⟩ := List.getElem?_eq_some_iff.1 hj
    simp at hj1 hj2
    subst hj2
    obtain ⟨b, off, e, h⟩ := hO i hj1
    exact ⟨b, off, by rw [e], h⟩

end Go.Proofs.YtackeigdehfmmaaGreatDoor

namespace Go.Proofs.YtackeigdehfmmaaGreatDoor
open Go.ChangeShapes Go.WideShapes Go.ChangeAt Go.RowKit Go.Deep

theorem mem_weightsAll {H : Type} {P : Program} {e : TypeId} : ∀ {l : List (DataW H)} {d : DataW H} (_ : d ∈ l) {n : Nat} (_ : n ∈ d.weights P e), n ∈ DataW.weightsAll P e l
  | x :: r, d, hd, n, hn => by
    rw [DataW.weightsAll, List.mem_append]
    rcases List.mem_cons.1 hd with rfl | hd
    · exact .inl hn
    · exact .inr (mem_weightsAll hd hn)

theorem reach47 {n : Nat} (h : n ≤ reachBytes) : n ≤ 140737488355328 := by have := reachBytes_lt; omega

set_option maxRecDepth 100000 in
theorem bits_trod {H : Type} {enc : TypeId × Value → H} {W : World} {n : Nat} {v : Value} {x : DataW H × List MemPlace} (h : DataW.trod enc Tryz.prog W 0 (fun _ => true) true n 23 [v] = some x) (hz : ∀ m ∈ x.1.weights Tryz.prog 23, m ≤ reachBytes) :
    ∃ (a : Option Addr) (l : List Nat) (c : Nat), v = .slice a l.length c ∧ RG W (fun _ => False) a (uvs l) ∧ l.length ≤ 140737488355328 := by
  rcases open_ints Tryz.underlying23 Tryz.underlying5 cells8 h with ⟨hcs, _⟩ | ⟨a, len, cap, zs, hcs, _, hl, hm, hz', hx, hcell, hwz⟩
  · simp only [List.cons.injEq, and_true] at hcs
    exact ⟨none, [], 0, hcs, RG.nil _ _ _, by simp⟩
  · simp only [List.cons.injEq, and_true] at hcs
    subst hcs
    rw [if_pos rfl] at hz'
    have hb : Tryz.prog.bytesOf 5 = 1 := by kernel_rfl
    have hlen : ((zs.take len).map Int.toNat).length = len := by simp; omega
    have hzz : len ≤ 140737488355328 := by
      have h1 := hz (((lits (H := H) .u8 (zs.take len)).length + (lits (H := H) .u8 (zs.drop len)).length) * Tryz.prog.bytesOf 5) (by rw [hx]; simp [DataW.weights, Tryz.underlying23])
      rw [hb] at h1
      have h2 : (lits (H := H) .u8 (zs.take len)).length = len := by simp [lits]; omega
      have := reach47 h1
      omega
    refine ⟨some a, (zs.take len).map Int.toNat, cap, by rw [hlen], ?_, by rw [hlen]; exact hzz⟩
    intro i y hy
    unfold uvs at hy
    rw [List.map_map, List.getElem?_map, Option.map_eq_some_iff] at hy
    obtain ⟨z, hz1, rfl⟩ := hy
    have hi : i < len := by
      obtain ⟨h1, _⟩ := List.getElem?_eq_some_iff.1 hz1
      simp at h1; omega
    rw [List.getElem?_take_of_lt hi] at hz1
    have c0 := hcell 0 (by omega)
    have ci := hcell i (by omega)
    have hsp : a.spot = none := by
      have : a.add 0 = a := by simp [Addr.add]
      rw [this] at c0
      exact spot_none c0
    obtain ⟨bb, off, sp⟩ := a
    simp only at hsp
    subst hsp
    rw [add_plain'] at ci
    have hw := wf_u8 (hwz z (List.mem_of_getElem? hz1))
    refine ⟨bb, off, rfl, fun h => h, ?_⟩
    rw [ci, List.getD_eq_getElem?_getD, hz1]
    simp only [Option.getD_some, Function.comp]
    congr 2
    omega

theorem opE_cells {H : Type} {enc : TypeId × Value → H} {W : World} {t : TypeId} {f0 f1 f2 f3 : Field} {n : Nat} {cs : List Value} {x : DataW H × List MemPlace} (hs : Tryz.prog.underlying t = some (.struct #[f0, f1, f2, f3])) (hct : Tryz.prog.cellsOf t = 4)
    (o0 : f0.offset = 0) (o1 : f1.offset = 1) (o2 : f2.offset = 2) (o3 : f3.offset = 3) (k0 : Tryz.prog.cellsOf f0.type = 1) (k1 : Tryz.prog.cellsOf f1.type = 1) (k2 : Tryz.prog.cellsOf f2.type = 1) (k3 : Tryz.prog.cellsOf f3.type = 1)
    (u0 : Tryz.prog.underlying f0.type = some (.int .u8)) (u1 : Tryz.prog.underlying f1.type = some (.int .i8)) (u2 : Tryz.prog.underlying f2.type = some .string) (u3 : f3.type = 23)
    (h : DataW.trod enc Tryz.prog W 0 (fun _ => true) true n t cs = some x) (hz : ∀ m ∈ x.1.weights Tryz.prog t, m ≤ reachBytes) :
    ∃ o : OpE, cs = [.int .u8 o.k, .int .i8 o.at', sv o.text, .slice o.ba o.bl.length o.bc] ∧ o.k < 256 ∧ (-128 ≤ o.at' ∧ o.at' ≤ 127) ∧ RG W (fun _ => False) o.ba (uvs o.bl) ∧ o.bl.length ≤ 140737488355328 := by
  obtain ⟨xs, m, _, hxe, hcl, hl2, hx⟩ := DataW.trod_struct hs h
  rw [hct] at hcl
  obtain ⟨x0, x1, x2, x3, rfl⟩ := list_four hcl
  obtain ⟨y0, y1, y2, y3, rfl⟩ := list_four hl2
  have t0 := hx 0 f0 rfl
  have t1 := hx 1 f1 rfl
  have t2 := hx 2 f2 rfl
  have t3 := hx 3 f3 rfl
  rw [o0, k0] at t0
  rw [o1, k1] at t1
  rw [o2, k2] at t2
  rw [o3, k3] at t3
  simp only [List.drop_zero, List.take_succ_cons, List.take_zero, List.drop_succ_cons, List.getElem?_cons_zero, List.getElem?_cons_succ] at t0 t1 t2 t3
  obtain ⟨z0, h0, _, w0⟩ := DataW.trod_int u0 t0
  obtain ⟨z1, h1, _, w1⟩ := DataW.trod_int u1 t1
  obtain ⟨s2, h2, _, _⟩ := DataW.trod_string u2 t2
  simp only [List.cons.injEq, and_true] at h0 h1 h2
  subst h0 h1 h2
  have v0 := wf_u8 w0
  have v1 := wf_i8 w1
  obtain ⟨k, rfl⟩ : ∃ k : Nat, z0 = k := ⟨z0.toNat, by omega⟩
  rw [u3] at t3
  obtain ⟨a, l, c, rfl, hr, hn⟩ := bits_trod t3 (fun q hq => hz q (by
    rw [hxe]
    have e : (DataW.agg (H := H) ([y0, y1, y2, y3].map (·.1))).weights Tryz.prog t = DataW.weightsEach Tryz.prog ([f0, f1, f2, f3].map (·.type)) ([y0, y1, y2, y3].map (·.1)) := by simp [DataW.weights, hs]
    rw [e]
    exact DataW.weights_mem_each (j := 3) rfl rfl q (by show q ∈ y3.1.weights Tryz.prog f3.type; rw [u3]; exact hq)))
  exact ⟨⟨k, z1, s2.data.toList, a, l, c⟩, rfl, by simp only; omega, v1, hr, hn⟩

set_option maxRecDepth 100000 in
theorem open_opE {H : Type} {enc : TypeId × Value → H} {W : World} {n : Nat} {cs : List Value} {x : DataW H × List MemPlace} (h : DataW.trod enc Tryz.prog W 0 (fun _ => true) true n 35 cs = some x) (hz : ∀ m ∈ x.1.weights Tryz.prog 35, m ≤ reachBytes) :
    ∃ o : OpE, cs = [.int .u8 o.k, .int .i8 o.at', sv o.text, .slice o.ba o.bl.length o.bc] ∧ o.k < 256 ∧ (-128 ≤ o.at' ∧ o.at' ≤ 127) ∧ RG W (fun _ => False) o.ba (uvs o.bl) ∧ o.bl.length ≤ 140737488355328 :=
  opE_cells Tryz.underlying35 cellsOp rfl rfl rfl rfl cells8 cellsI8 cellsSt cellsSl Tryz.underlying5 Tryz.underlying33 Tryz.underlying9 rfl h hz

instance : Inhabited OpE := ⟨⟨0, 0, [], none, [], 0⟩⟩

/-- what operations a slice holds -/
def OpsEV (W : World) (v : Value) : Prop := ∃ (a : Option Addr) (l : List OpE) (c : Nat), v = .slice a l.length c ∧ l.length ≤ 9223372036854775807 ∧ OpsE W a l

set_option maxRecDepth 100000 in
theorem open_opsE {H : Type} {enc : TypeId × Value → H} {W : World} {r : Reach} {b0 : Nat} {v : Value} {d : DataW H} {p : List MemPlace} (hv : Value.okWide Tryz.prog W r b0 22 v) (h : DataW.Trod enc Tryz.prog W 0 (fun _ => true) true 22 v d p) (hz : ∀ m ∈ d.weights Tryz.prog 22, m ≤ reachBytes) : OpsEV W v := by
  obtain ⟨a0, len0, cap0, rfl⟩ := okWide_slice Tryz.underlying22 hv
  obtain ⟨fuel, hf⟩ := h
  rcases open_slice Tryz.underlying22 hf with ⟨hcs, _⟩ | ⟨a, len, cap, m, n, D, Pl, hcs, _, hl, hm, hmm, hxe, hi⟩
  · simp only [Value.cells, List.cons.injEq, Value.slice.injEq, and_true] at hcs
    obtain ⟨rfl, rfl, rfl⟩ := hcs
    exact ⟨none, [], 0, rfl, by simp, fun i o h => by simp at h⟩
  · simp only [Value.cells, List.cons.injEq, Value.slice.injEq, and_true] at hcs
    obtain ⟨rfl, rfl, rfl⟩ := hcs
    rw [if_pos rfl] at hmm
    subst hmm
    rw [cellsOp] at hi
    have hd : d = .slice ((List.range len0).map D) ((List.range (m - len0)).map fun j => D (len0 + j)) := (Prod.mk.inj hxe).1
    have hw : ∀ i, i < len0 → ∀ q ∈ (D i).weights Tryz.prog 35, q ≤ reachBytes := by
      intro i hlt q hq
      refine hz q ?_
      rw [hd]
      have e : (DataW.slice (H := H) ((List.range len0).map D) ((List.range (m - len0)).map fun j => D (len0 + j))).weights Tryz.prog 22 = (((List.range len0).map D).length + ((List.range (m - len0)).map fun j => D (len0 + j)).length) * Tryz.prog.bytesOf 35 :: (DataW.weightsAll Tryz.prog 35 ((List.range len0).map D) ++ DataW.weightsAll Tryz.prog 35 ((List.range (m - len0)).map fun j => D (len0 + j))) := by
        simp [DataW.weights, Tryz.underlying22]
      rw [e]
      refine List.mem_cons_of_mem _ (List.mem_append_left _ (mem_weightsAll (d := D i) (List.mem_map_of_mem (by simpa using hlt)) hq))
    have key : ∀ i, i < len0 → ∃ o : OpE, ∃ b off, a = ⟨b, off, none⟩ ∧ OpEAt W b (off + i * 4) o := by
      intro i hlt
      obtain ⟨cs', hc, ht⟩ := hi i (by omega)
      obtain ⟨o, rfl, hk, hat, hbr, hbn⟩ := open_opE ht (hw i hlt)
      obtain ⟨_, _, hat'⟩ := World.cells?_some hc
      have g0 := hat' 0 (by omega)
      have g1 := hat' 1 (by omega)
      have g2 := hat' 2 (by omega)
      have g3 := hat' 3 (by omega)
      have hsp : a.spot = none := by
        obtain ⟨cs0, hc0, ht0⟩ := hi 0 (by omega)
        obtain ⟨o0, rfl, _⟩ := open_op ht0
        obtain ⟨_, _, hat0⟩ := World.cells?_some hc0
        have g := hat0 0 (by omega)
        have e1 : ∀ x : Addr, x.add 0 = x := fun x => by simp [Addr.add]
        rw [Nat.zero_mul, e1, e1, List.getElem?_cons_zero] at g
        exact spot_none g
      obtain ⟨b, off, sp⟩ := a
      simp only at hsp
      subst hsp
      rw [add_plain', add_plain'] at g0 g1 g2 g3
      simp only [List.getElem?_cons_zero, List.getElem?_cons_succ, Nat.add_zero] at g0 g1 g2 g3
      exact ⟨o, b, off, rfl, ⟨g0, g1, g2, g3, hk, hat, hbr, hbn⟩⟩
    obtain ⟨O, hO⟩ := choose_lt (α := OpE) (p := fun i o => ∃ b off, a = ⟨b, off, none⟩ ∧ OpEAt W b (off + i * 4) o) key
    refine ⟨some a, (List.range len0).map O, m, by simp, by simp; unfold maxLen at hm; omega, ?_⟩
    intro i o hio
    rw [List.getElem?_map, Option.map_eq_some_iff] at hio
    obtain ⟨j, hj, rfl⟩ := hio
    obtain ⟨hj1, hj2⟩ := List.getElem?_eq_some_iff.1 hj
    simp at hj1 hj2
    subst hj2
    obtain ⟨b, off, e, h⟩ := hO i hj1
    exact ⟨b, off, by rw [e], h⟩

/-- what texts a slice holds -/
def TextsV (W : World) (v : Value) : Prop := ∃ (a : Option Addr) (l : List Wl.Bs) (c : Nat), v = .slice a l.length c ∧ l.length ≤ 9223372036854775807 ∧ RG W (fun _ => False) a (svs l)

set_option maxRecDepth 100000 in
theorem open_texts {H : Type} {enc : TypeId × Value → H} {W : World} {r : Reach} {b0 : Nat} {v : Value} {d : DataW H} {p : List MemPlace} (hv : Value.okWide Tryz.prog W r b0 25 v) (h : DataW.Trod enc Tryz.prog W 0 (fun _ => true) true 25 v d p) : TextsV W v := by
  obtain ⟨a0, len0, cap0, rfl⟩ := okWide_slice Tryz.underlying25 hv
  obtain ⟨fuel, hf⟩ := h
  rcases open_slice1 Tryz.underlying25 cellsSt hf with ⟨hcs, _⟩ | ⟨a, len, cap, m, n, V, D, Pl, hcs, _, hl, hm, hmm, _, hi⟩
  · simp only [Value.cells, List.cons.injEq, Value.slice.injEq, and_true] at hcs
    obtain ⟨rfl, rfl, rfl⟩ := hcs
    exact ⟨none, [], 0, rfl, by simp, RG.nil _ _ _⟩
  · simp only [Value.cells, List.cons.injEq, Value.slice.injEq, and_true] at hcs
    obtain ⟨rfl, rfl, rfl⟩ := hcs
    rw [if_pos rfl] at hmm
    subst hmm
    have key : ∀ i, i < len0 → ∃ s : Wl.Bs, ∃ b off, a = ⟨b, off, none⟩ ∧ W.cell? ⟨b, off + i, none⟩ = some (sv s) := by
      intro i hlt
      obtain ⟨h1, h2⟩ := hi i (by omega)
      obtain ⟨s2, h3, _, _⟩ := DataW.trod_string Tryz.underlying9 h2
      simp only [List.cons.injEq, and_true] at h3
      rw [h3] at h1
      have hsp : a.spot = none := by
        have g := (hi 0 (by omega)).1
        have e1 : a.add 0 = a := by simp [Addr.add]
        rw [e1] at g
        exact spot_none g
      obtain ⟨b, off, sp⟩ := a
      simp only at hsp
      subst hsp
      rw [add_plain'] at h1
      exact ⟨s2.data.toList, b, off, rfl, h1⟩
    obtain ⟨O, hO⟩ := choose_lt (α := Wl.Bs) (p := fun i s => ∃ b off, a = ⟨b, off, none⟩ ∧ W.cell? ⟨b, off + i, none⟩ = some (sv s)) key
    refine ⟨some a, (List.range len0).map O, m, by simp, by simp; unfold maxLen at hm; omega, ?_⟩
    intro i x hio
    unfold svs at hio
    rw [List.getElem?_map, Option.map_eq_some_iff] at hio
    obtain ⟨s, hs, rfl⟩ := hio
    rw [List.getElem?_map, Option.map_eq_some_iff] at hs
    obtain ⟨j, hj, rfl⟩ := hs
    obtain ⟨hj1, hj2⟩ := List.getElem?_eq_some_iff.1 hj
    simp at hj1 hj2
    subst hj2
    obtain ⟨b, off, e, h⟩ := hO i hj1
    exact ⟨b, off, by rw [e], fun h => h, h⟩

end Go.Proofs.YtackeigdehfmmaaGreatDoor
