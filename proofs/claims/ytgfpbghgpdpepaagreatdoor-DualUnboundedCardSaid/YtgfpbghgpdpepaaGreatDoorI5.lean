import Derived.Test.YtgfpbghgpdpepaaGreatDoorI4
import Derived.Deep.CutBlock
set_option maxRecDepth 100000
set_option maxHeartbeats 25600000
namespace Bi
structure Guess (top second x2 head q : Nat) : Prop where
 lt : q < 1000000000
 init : q * top ≤ head
 step : ∀ g rest, g * top + rest = head → (1000000000 ≤ g ∨ rest * 1000000000 + x2 < g * second) → q < g
 fin : ∀ g rest, g * top + rest = head → g ≤ 1000000000 → (g * second ≤ rest * 1000000000 + x2 ∨ 1000000000 ≤ rest) → g ≤ q + 1
theorem head_le {x0 x1 x2 top second P xl yl X Y : Nat} (hX : X = ((x0 * 1000000000 + x1) * 1000000000 + x2) * P + xl) (hY : Y = (top * 1000000000 + second) * P + yl) (hyl : yl < P) (hs : second < 1000000000)
  (hlt : X < Y * 1000000000) : x0 ≤ top := by
 have h1 : (x0 * 1000000000 * 1000000000) * P ≤ ((x0 * 1000000000 + x1) * 1000000000 + x2) * P := Nat.mul_le_mul_right _ (by omega);have h2 : (top * 1000000000 + second + 1) * P ≤ ((top + 1) * 1000000000) * P := Nat.mul_le_mul_right _ (by omega);rw [Nat.add_mul (top * 1000000000 + second), Nat.one_mul] at h2;have h3 : Y * 1000000000 ≤ ((top + 1) * 1000000000) * P * 1000000000 := Nat.mul_le_mul_right _ (by omega);rw [Nat.mul_right_comm] at h3;have h4 : (x0 * 1000000000 * 1000000000) * P < ((top + 1) * 1000000000 * 1000000000) * P := by omega
 have := Nat.lt_of_mul_lt_mul_right h4;omega
theorem guess_of {ss ys : List Nat} {k x0 x1 x2 top second : Nat} (hos : Ok ss) (hoy : Ok ys) (hsl : ss.length = k + 3) (hyl : ys.length = k + 2)
  (h0 : ss[k + 2]? = some x0) (h1 : ss[k + 1]? = some x1) (h2 : ss[k]? = some x2) (ht : ys[k + 1]? = some top) (hs : ys[k]? = some second) (ht1 : 1 ≤ top) (hlt : val ss < val ys * 1000000000) :
  Guess top second x2 (x0 * 1000000000 + x1) (val ss / val ys) ∧ x0 ≤ top := by
 have hX := val_three hsl h0 h1 h2;have hY := val_two hyl ht hs;have bxl := val_take_lt hos (k := k) (by omega);have byl := val_take_lt hoy (k := k) (by omega);have b2 := hos.at' h2;have bs := hoy.at' hs;have hY0 : 0 < val ys := by
  rcases Nat.eq_zero_or_pos (val ys) with h | h
  ·rw [h] at hlt; omega
  ·exact h
 have hq : val ss / val ys * val ys ≤ val ss := Nat.div_mul_le_self _ _;have hq2 : val ss < (val ss / val ys + 1) * val ys := by rw [Nat.mul_comm]; exact Nat.lt_mul_div_succ _ hY0
 generalize val ss / val ys = q at *;refine ⟨⟨?_, ?_, ?_, ?_⟩, head_le hX hY byl bs hlt⟩
 ·have : q * val ys < 1000000000 * val ys := by rw [Nat.mul_comm 1000000000]; omega
  exact Nat.lt_of_mul_lt_mul_right this
 ·exact guess_init hq hY rfl hX bxl rfl b2
 ·intro g rest hg hc;exact guess_step hq hlt hY rfl hX bxl rfl hg hc
 ·intro g rest hg hgB hc;have h5 := guess_end hY byl rfl bs ht1 hX rfl hg hgB hc;have h3 : (g - 1) * val ys < (q + 1) * val ys := by omega
  have := Nat.lt_of_mul_lt_mul_right h3;omega
theorem seg_len {zs : List Nat} {i m : Nat} (h : i + m ≤ zs.length) : ((zs.drop i).take m).length = m := by simp; omega
theorem seg_get {zs : List Nat} {i m j x : Nat} (hj : j < m) (h : zs[i + j]? = some x) : ((zs.drop i).take m)[j]? = some x := by
 rw [List.getElem?_take_of_lt hj, List.getElem?_drop]; exact h
theorem round_start {zs ys : List Nat} {i k J : Nat} (hz : i + (k + 3) ≤ zs.length) (hoy : Ok ys) (hyl : ys.length = k + 2) (hJ : J = i + 1) (hlt : val zs < val ys * 1000000000 ^ J) :
  val ((zs.drop i).take (k + 3)) < val ys * 1000000000 ∧ val (zs.drop (i + (k + 3))) = 0 := by
 subst hJ;have h1 := val_lt hoy;rw [hyl] at h1;have h2 : val ys * 1000000000 ^ (i + 1) ≤ 1000000000 ^ (k + 2) * 1000000000 ^ (i + 1) := Nat.mul_le_mul_right _ (by omega);rw [← Nat.pow_add, show k + 2 + (i + 1) = i + (k + 3) by omega] at h2;have h3 := seg_high hz hlt h2;refine ⟨?_, h3⟩;have h4 := val_seg hz;rw [h3, Nat.mul_zero, Nat.add_zero] at h4;have h5 : 1000000000 ^ i * val ((zs.drop i).take (k + 3)) < 1000000000 ^ i * (val ys * 1000000000) := by
  rw [Nat.pow_succ, ← Nat.mul_assoc, Nat.mul_comm (val ys), Nat.mul_assoc] at hlt;omega
 exact Nat.lt_of_mul_lt_mul_left h5
theorem drop_set_self {qs : List Nat} {i q : Nat} (h : i < qs.length) : (qs.set i q).drop i = q :: qs.drop (i + 1) := by
 rw [List.drop_eq_getElem_cons (by simpa using h), List.getElem_set_self]
 congr 1
 exact same_drop fun j hj => List.getElem?_set_ne (by omega)
theorem round_end {zs zs' ys qs : List Nat} {i m q V J J' : Nat} (hm : i + m ≤ zs.length) (hl : zs'.length = zs.length) (hfix : ∀ j, (j < i ∨ i + m ≤ j) → zs'[j]? = zs[j]?) (hz0 : val (zs.drop (i + m)) = 0) (ho : Ok zs)
  (hX : val ((zs'.drop i).take m) + q * val ys = val ((zs.drop i).take m)) (hlt : val ((zs'.drop i).take m) < val ys) (hqi : i < qs.length) (hJ : J = i) (hJ' : J' = i + 1)
  (hI : val zs + val ys * (1000000000 ^ J' * val (qs.drop J')) = V) :
  val zs' + val ys * (1000000000 ^ J * val ((qs.set i q).drop J)) = V ∧ val zs' < val ys * 1000000000 ^ J := by
 subst hJ hJ';have e1 := val_seg hm;have e2 := val_seg (l := zs') (j := J) (m := m) (by omega);rw [same_take (fun j hj => hfix j (.inl hj)), same_drop (fun j hj => hfix j (.inr hj))] at e2;rw [hz0, Nat.mul_zero, Nat.add_zero] at e1 e2;have hb := val_take_lt ho (k := J) (by omega);rw [drop_set_self hqi];generalize val (zs.take J) = A at *;generalize val ((zs'.drop J).take m) = X' at *;generalize val ((zs.drop J).take m) = X at *;generalize val ys = Y at *;generalize hT : val (qs.drop (J + 1)) = T at *;generalize hP : 1000000000 ^ J = P at *;have hp : 1000000000 ^ (J + 1) = P * 1000000000 := by rw [Nat.pow_succ, hP]
 rw [hp] at hI;refine ⟨?_, ?_⟩
 ·rw [val, hT];subst hX;rw [e2, ← hI, e1];have a1 : Y * (P * (q + 1000000000 * T)) = P * (q * Y) + Y * (P * 1000000000 * T) := by
   rw [Nat.mul_add, Nat.mul_add, ← Nat.mul_assoc P 1000000000 T]
   congr 1
   rw [Nat.mul_left_comm, Nat.mul_comm Y q]
  have a2 : P * (X' + q * Y) = P * X' + P * (q * Y) := Nat.mul_add _ _ _;rw [a1, a2]; omega
 ·rw [e2];have : P * (X' + 1) ≤ P * Y := Nat.mul_le_mul_left _ hlt;rw [Nat.mul_add, Nat.mul_comm P Y] at this;omega
theorem pos_of_lt_mul {a b c : Nat} (h : a < b * c) : 0 < b := by
 rcases Nat.eq_zero_or_pos b with h0 | h0
 ·subst h0; omega
 ·exact h0
theorem val_lt_pow {l : List Nat} {k : Nat} (ho : Ok l) (h : l.length = k + 2) : val l < 1000000000 ^ (k + 3) := by
 have h1 := val_lt ho;rw [h] at h1;exact Nat.lt_of_lt_of_le h1 (Nat.pow_le_pow_right (by omega) (by omega))
theorem seg_lt {zs : List Nat} {i m : Nat} (ho : Ok zs) (h : i + m ≤ zs.length) : val ((zs.drop i).take m) < 1000000000 ^ m := by
 have := val_lt ((ho.drop i).take m)
 rwa [seg_len h] at this
theorem sub_no {X X' Y g q P : Nat} (hq1 : q ≤ g) (hq : q = X / Y) (hY : 0 < Y) (h0 : X' + g * Y = X + P * 0) : g = q ∧ X' + q * Y = X ∧ X' < Y := by
 have h : X' + g * Y = X := by rw [h0]; omega
 have h1 : g ≤ q := by rw [hq, Nat.le_div_iff_mul_le hY]; omega
 obtain rfl : g = q := by omega
 have h2 : X < Y * (X / Y + 1) := Nat.lt_mul_div_succ _ hY;rw [← hq, Nat.mul_add, Nat.mul_comm Y g] at h2;exact ⟨rfl, h, by omega⟩
theorem sub_yes {X X' X2 Y g q P ca : Nat} (hq1 : q ≤ g) (hq2 : g ≤ q + 1) (hq : q = X / Y) (hY : 0 < Y) (_hYP : Y < P) (hX' : X' < P) (hX2 : X2 < P) (hca : ca ≤ 1) (h0 : X' + g * Y = X + P * 1) (h2 : X2 + P * ca = X' + Y) :
  g = q + 1 ∧ X2 + q * Y = X ∧ X2 < Y := by
 have h : X' + g * Y = X + P := by rw [h0]; omega
 have h3 : X < Y * (X / Y + 1) := Nat.lt_mul_div_succ _ hY;have h5 : q * Y ≤ X := by rw [hq]; exact Nat.div_mul_le_self _ _
 rw [← hq, Nat.mul_add, Nat.mul_comm Y q] at h3;have h4 : g = q + 1 := by
  rcases Nat.lt_or_ge q g with h4 | h4
  ·omega
  ·obtain rfl : g = q := by omega
   omega
 subst h4;rw [Nat.add_mul] at h;rcases (show ca = 0 ∨ ca = 1 by omega) with rfl | rfl
 ·omega
 ·exact ⟨rfl, by omega, by omega⟩
end Bi
namespace Go.Proofs.YtgfpbghgpdpepaaGreatDoor
open Go.RowKit
theorem OwnU.touch {w w' : World} {B b g n cap : Nat} {l : List Nat} (h : OwnU w B (.slice (some ⟨b, 0, none⟩) n cap) l) (ht : Touch g w w') (hne : b ≠ g) : OwnU w' B (.slice (some ⟨b, 0, none⟩) n cap) l := by
 obtain ⟨h1, h2⟩ := h;refine ⟨h1, h2.imp id ?_⟩;rintro ⟨g', cap', cur, hv, hg, hh, r⟩;have : g' = b := by
  simp only [Value.slice.injEq, Option.some.injEq, Addr.mk.injEq] at hv;exact hv.1.1.symm
 subst this;exact ⟨g', cap', cur, hv, hg, by rw [ht.block g' hne]; exact hh, r⟩
theorem divide_big (m n k : Nat) (u v : List Nat) (Hu : Hid (u = Bi.limbs m)) (Hv : Hid (v = Bi.limbs n)) (au av : Option Addr) (cu cv : Nat) (w : World) (hmu : u.length ≤ 100000000) (hvl : v.length = k + 2) (hle : Hid (n ≤ m))
  (hu : U w au u) (hv : U w av v) (huv : k + 2 ≤ u.length) :
  Calls Tryz.prog 196 #[.slice au u.length cu, .slice av (k + 2) cv] w fun e w' => DivP w' m n e ∧ Below w.heap.size w w' := by
 have Hou : Hid (Bi.Ok u) := hii (by rw [Hu.out]; exact Bi.limbs_ok _);have Hov : Hid (Bi.Ok v) := hii (by rw [Hv.out]; exact Bi.limbs_ok _);obtain ⟨t, ht⟩ := get_some (l := v) (k := k + 1) (by omega);have htb := Hov.out.at' ht;have ht0 : t ≠ 0 := by
  have hc := Bi.limbs_canon n;rw [← Hv.out] at hc;have hne : v ≠ [] := by intro h; rw [h] at hvl; simp at hvl
  have := hc hne;rw [List.getLast_eq_getElem] at this;have e : v[v.length - 1]'(by omega) = t := by
   have h2 := (List.getElem?_eq_some_iff.1 ht).2;simp only [hvl]; exact h2
  rwa [e] at this
 have HVL := hii hvl;have hvl1 : ((k : Int) + 2 == 1) = false := by rw [beq_eq_false_iff_ne]; omega
 have hfit := Bi.norm_fit Hov.out (n := k + 1) hvl ht;obtain ⟨d, hd⟩ : ∃ d, d = 1000000000 / (t + 1) := ⟨_, rfl⟩;have hd1 : 1 ≤ d := by rw [hd, Nat.le_div_iff_mul_le (by omega)]; omega
 have hd2 : d ≤ 500000000 := by rw [hd]; apply Nat.div_le_of_le_mul; omega
 have hdi : (1000000000 : Int) / ((t : Int) + 1) = (d : Int) := by rw [hd]; simp
 rw [← hd] at hfit;have HD := hii hd;have HFV : Hid (Bi.val v * d < 1000000000 ^ (k + 2)) := hii hfit;have HFU : Hid (Bi.val u * d < 1000000000 ^ (u.length + 1)) := hii (by
  rw [Nat.pow_succ];have h1 := Bi.val_lt Hou.out;have h2 : Bi.val u * d < 1000000000 ^ u.length * d := Nat.mul_lt_mul_of_pos_right h1 hd1;have h3 : 1000000000 ^ u.length * d ≤ 1000000000 ^ u.length * 1000000000 := Nat.mul_le_mul_left _ (by omega);omega)
 clear hd hfit;have hk1 : k + 2 ≤ v.length := Nat.le_of_eq hvl.symm;have hk2 : v.length ≤ k + 2 := Nat.le_of_eq hvl;have HT := hii ht;clear hvl;go_enter Tryz.func196, Tryz.ntmps196;go_wp2_with fail;have hc := compare_any m n u v Hu Hv au av cu cv w (by omega) (by omega) hu hv;rw [HVL.out] at hc;(with_reducible refine hc.mono ?_);clear hc;rintro e w1 ⟨rfl, hb1⟩;have hcmp : ¬ cmpN m n < 0 := by have := hle.out; unfold cmpN; rw [if_neg (by omega)]; split <;> omega
 have hu1 := hu.mono hb1;have hv1 := hv.mono hb1;obtain ⟨bv, ov, rfl, hct⟩ := hv1.at' ht;clear hu hv ht;go_upto_region 8 with fail;go_wp2_with fail;have hs := scaled_any u d (u.length + 1) au cu w1 (by omega) (by omega) (by omega) Hou.out hu1 HFU (by omega);rw [show ((u.length + 1 : Nat) : Int) = (u.length : Int) + 1 from by omega] at hs;(with_reducible refine hs.mono ?_);clear hs;rintro e w2 ⟨⟨xs, hxl, HVX, hox, rfl, hownx⟩, hb2⟩;have hv2 := hv1.mono hb2;clear hct hu1 hv1;have HXL := hii hxl;have hxl2 : u.length + 1 ≤ xs.length := Nat.le_of_eq hxl.symm;have hxl3 : xs.length ≤ u.length + 1 := Nat.le_of_eq hxl;clear hxl;go_wp2_with fail;have hs := scaled_any v d (k + 2) _ cv w2 (by omega) (by omega) (by omega) Hov.out hv2 HFV hk2;rw [show ((k + 2 : Nat) : Int) = (k : Int) + 2 from by omega, HVL.out] at hs;(with_reducible refine hs.mono ?_);clear hs;rintro e w3 ⟨⟨ys, hyl, HVY, hoy, rfl, howny⟩, hb3⟩;have hownx3 := hownx.kept hb3 nl;have hsz12 := hownx.len.2.2.2;have hsz23 := howny.len.2.2.2;obtain ⟨top, htop⟩ := get_some (l := ys) (k := k + 1) (by omega);obtain ⟨sec, hsec⟩ := get_some (l := ys) (k := k) (by omega);have btop := hoy.at' htop;have bsec := hoy.at' hsec;have hct := howny.at' htop;have hcs := howny.at' hsec;have hhalf := Bi.norm_half Hov.out hoy (n := k + 1) HVL.out hyl HT.out ht0 htop (by rw [HVY.out, HD.out]);have HTOP := hii htop;have HSEC := hii hsec;clear htop hsec;have HYL := hii hyl;clear hyl;go_upto_region 9 with fail;go_quiet (fail);have hbq : Below w1.heap.size w1 (w3.drewN nq) := below_drewN (hb2.trans (hb3.mono hb2.size)) nq;have hbx : Below w2.heap.size w2 (w3.drewN nq) := below_drewN hb3 nq;have hby : Below w3.heap.size w3 (w3.drewN nq) := below_drewN br nq;have hownx4 := hownx.kept hbx nl;have howny4 := howny.kept hby nl;generalize w3.drewN nq = w4 at *;go_wp2_with (at_make; refine make_u32_full _ rfl _ _ rfl w4 w4.heap.size _ _ (u.length - (k + 2) + 1) rfl rfl (by omega) (by omega) (by omega) nl br ?_; intro w5 hownq5 hb5);have hownx5 := hownx4.kept hb5 nl;have howny5 := howny4.kept hb5 nl;clear hownx hownx3 hownx4 howny howny4 hct hcs hv2;obtain ⟨M, hM⟩ : ∃ M, M = u.length - (k + 2) := ⟨_, rfl⟩;have HM := hii hM;have hMu : u.length = M + (k + 2) := by omega
 have HMU := hii hMu;have hM1 : u.length ≤ M + (k + 2) := Nat.le_of_eq hMu;have hM2 : M + (k + 2) ≤ u.length := Nat.le_of_eq hMu.symm;clear hM hMu;go_loopg [15] (M + 1) (fun gk s wr => ∃ (j : Int) (zs qs : List Nat), -1 ≤ j ∧ j < (gk : Int) ∧ j ≤ M ∧ s = .int .i64 j ∧ zs.length = u.length + 1 ∧ qs.length = M + 1 ∧ Bi.Ok zs ∧ Bi.Ok qs ∧
   Hid (Bi.val zs + Bi.val ys * (1000000000 ^ (j + 1).toNat * Bi.val (qs.drop (j + 1).toNat)) = Bi.val u * d) ∧ Hid (Bi.val zs < Bi.val ys * 1000000000 ^ (j + 1).toNat) ∧
   OwnU wr w1.heap.size (.slice (some ⟨w1.heap.size, 0, none⟩) (u.length + 1) (u.length + 1)) zs ∧ OwnU wr w4.heap.size (.slice (some ⟨w4.heap.size, 0, none⟩) (u.length - (k + 2) + 1) (u.length - (k + 2) + 1)) qs ∧
   OwnU wr w2.heap.size (.slice (some ⟨w2.heap.size, 0, none⟩) (k + 2) (k + 2)) ys ∧ w5.heap.size ≤ wr.heap.size ∧ Below w1.heap.size w1 wr)
 case atStart =>
  refine ⟨_, xs, _, by omega, by omega, by omega, rfl, HXL.out, by simp; omega, hox, Bi.Ok.replicate _, hii ?_, hii ?_, hownx5, hownq5, howny5, nl, hbq.trans (hb5.mono hbq.size)⟩
  ·exact Bi.div_begin (by omega) HVX.out
  ·exact Bi.div_start' Hou.out HMU.out HVL.out HT.out ht0 hd1 HVX.out HVY.out (by omega)
 case round =>
  obtain ⟨j, zs, qs, hj1, hjg, hj2, rfl, hzl, hql, hoz, hoq, HI, HLT, hownx, hownq, howny, hsz, hbr⟩ := hrel;have HZL := hii hzl;have HQL := hii hql;have hzl2 : u.length + 1 ≤ zs.length := Nat.le_of_eq hzl.symm;clear hzl hql hownx5 hownq5 howny5
  by_cases hj : j < 0
  ·obtain rfl : j = -1 := by omega
   obtain ⟨ax, cx, ex, hcx, hUx⟩ := hownx.read;simp only [Value.slice.injEq] at ex;obtain ⟨rfl, hz9, rfl⟩ := ex;clear hz9;obtain ⟨aq, cq, eq, hcq, hUq⟩ := hownq.read;simp only [Value.slice.injEq] at eq;obtain ⟨rfl, eq2, rfl⟩ := eq;have h1 := HI.out;have h2 := HLT.out;simp only [Int.reduceNeg, Int.reduceAdd, Int.toNat_zero, List.drop_zero, Nat.pow_zero, Nat.one_mul, Nat.mul_one] at h1 h2;have hys := Bi.val_lt hoy;rw [HYL.out] at hys;have HTK : Hid (Bi.val (zs.take (k + 2)) = Bi.val zs) := hii (Bi.val_take_small (by omega) (by omega));rw [HVY.out] at h1 h2;have HE := hii (Bi.div_end hd1 h1 h2);have hlen : (zs.take (k + 2)).length = k + 2 := by simp; omega
   have hUt := hUx.take (k + 2);have hot := hoz.take (k + 2);have HEQ := hii eq2;clear h1 h2 hys hcx eq2;have HLEN := hii hlen;clear hlen hUx;go_wp2_with fail;have ht := trim_any (zs.take (k + 2)) _ (u.length + 1) wr (by rw [HLEN.out]; omega) (by rw [HLEN.out]; omega) hUt;rw [HLEN.out] at ht;(with_reducible refine ht.mono ?_);clear ht;rintro e w6 ⟨L1, hL1, hl1, rfl, hU1, rfl⟩;have HL1 : Hid (L1 = Bi.limbs (Bi.val zs)) := hii (by rw [hL1, Bi.trim_eq_limbs hot, HTK.out]);have hl1' : L1.length ≤ 100000002 := by omega
   clear hL1 hl1;go_wp2_with fail;(with_reducible refine (short_any L1 d _ _ wr ?_ (by omega) (by omega) ?_ hU1).mono ?_)
   ·omega
   ·rw [HL1.out]; exact Bi.limbs_ok _
   rintro e w6 ⟨⟨ar, R, cr, r, HR, _, _, _, hcr, rfl, HUr⟩, hb6⟩;have hUq6 := hUq.mono hb6;clear hUq hUt hU1;go_wp2_with fail;have ht := trim_any qs _ (u.length - (k + 2) + 1) w6 (by rw [HQL.out]; omega) hcq hUq6;rw [← HEQ.out] at ht;(with_reducible refine ht.mono ?_);clear ht;rintro e w7 ⟨Q, hQ, hQl, rfl, hU7, rfl⟩;have HQ : Hid (Q = Bi.limbs (Bi.val qs)) := hii (by rw [hQ, Bi.trim_eq_limbs hoq]);clear hQ;go_wp2;go_ret2;refine ⟨⟨_, _, Q, R, _, _, hii ?_, hii ?_, hQl, hcr, rfl, hii hU7, HUr⟩, Below.step hb1 (bu hbr hb6) nl⟩
   ·rw [HQ.out, HE.out.1, Hu.out, Hv.out, Bi.val_limbs, Bi.val_limbs]
   ·rw [HR.out, HL1.out, Bi.val_limbs, HE.out.2, Hu.out, Hv.out, Bi.val_limbs, Bi.val_limbs]
  ·obtain ⟨i, rfl⟩ : ∃ i : Nat, j = (i : Int) := ⟨j.toNat, by omega⟩;have HST := hii (Bi.round_start (zs := zs) (ys := ys) (i := i) (k := k) (J := ((i : Int) + 1).toNat) (by omega) hoy HYL.out (by omega) HLT.out);obtain ⟨x0, hx0⟩ := get_some (l := zs) (k := i + (k + 2)) (by omega);obtain ⟨x1, hx1⟩ := get_some (l := zs) (k := i + (k + 1)) (by omega);obtain ⟨x2, hx2⟩ := get_some (l := zs) (k := i + k) (by omega);have b0 := hoz.at' hx0;have b1 := hoz.at' hx1;have b2 := hoz.at' hx2;have c0 := hownx.at' hx0;have c1 := hownx.at' hx1;have c2 := hownx.at' hx2;obtain ⟨hG, h0t⟩ := Bi.guess_of ((hoz.drop i).take (k + 3)) hoy (Bi.seg_len (by omega)) HYL.out (Bi.seg_get (by omega) hx0) (Bi.seg_get (by omega) hx1) (Bi.seg_get (by omega) hx2) HTOP.out HSEC.out (by omega) HST.out.1;obtain ⟨qd, hqd⟩ : ∃ qd, qd = Bi.val ((zs.drop i).take (k + 3)) / Bi.val ys := ⟨_, rfl⟩;rw [← hqd] at hG;have HQD := hii hqd;have HG := hii hG;obtain ⟨hh, hhh⟩ : ∃ hh : Nat, hh = x0 * 1000000000 + x1 := ⟨_, rfl⟩;have hhd : (x0 : Int) * 1000000000 + x1 = (hh : Int) := by rw [hhh]; simp
   have hhb : hh ≤ 1000000000000000000 := by omega
   rw [← hhh] at hG;have HG := hii hG;have hg0 := Bi.guess_first_le h0t b1 hhalf;have hg1 : qd ≤ hh / top := by rw [Nat.le_div_iff_mul_le (by omega)]; exact hG.init
   have hg2 : hh / top * top + hh % top = hh := by rw [Nat.mul_comm]; exact Nat.div_add_mod _ _
   have hg3 : hh % top < top := Nat.mod_lt _ (by omega);have hgq : (hh : Int) / (top : Int) = ((hh / top : Nat) : Int) := by simp
   have hgr : (hh : Int) % (top : Int) = ((hh % top : Nat) : Int) := by simp
   rw [← hhh] at hg0;generalize hh / top = g0 at hg0 hg1 hg2 hgq;generalize hh % top = r0 at hg2 hg3 hgr;have HG2 := hii hg2;clear hx0 hx1 hx2 hqd hG hhh hg2;go_upto_region 14 with fail;go_quiet (fail);have hBd := below_drewN (Below.refl wr.heap.size wr) nq;have hownx := hownx.kept hBd nl;have hownq := hownq.kept hBd nl;have howny := howny.kept hBd nl;have hbr := below_drewN hbr nq;have c2 : (wr.drewN nq).cell? ⟨w1.heap.size, i + k, none⟩ = some (.int .u32 (x2 : Int)) := c2;have hsz := Nat.le_trans hsz hBd.size;clear c0 c1 hBd;generalize wr.drewN nq = ws at *;go_upto_region 15 with fail;go_quiet (fail);have hBd := below_drewN (Below.refl ws.heap.size ws) nq;have hownx := hownx.kept hBd nl;have hownq := hownq.kept hBd nl;have howny := howny.kept hBd nl;have hbr := below_drewN hbr nq;have c2 : (ws.drewN nq).cell? ⟨w1.heap.size, i + k, none⟩ = some (.int .u32 (x2 : Int)) := c2;have hsz := Nat.le_trans hsz hBd.size;clear hBd;generalize ws.drewN nq = wt at *;go_upto_block 2 with fail;go_cut [17, 18] from 83 to 161 (fun s17 s18 wc => ∃ g r : Nat, s17 = .int .u64 g ∧ s18 = .int .u64 r ∧ qd ≤ g ∧ g ≤ qd + 1 ∧ g ≤ 1000000000 ∧ wt = wc)
   case first =>
    go_wp2_with fail;go_loop [17, 18] (fun s17 s18 => ∃ g r : Nat, s17 = .int .u64 g ∧ s18 = .int .u64 r ∧ qd ≤ g ∧ g ≤ 1000000001 ∧ r < 1000000000 ∧ Hid (g * top + r = hh)) (fun s17 _ => (intOf s17).toNat)
    case atStart => exact ⟨g0, r0, rfl, rfl, hg1, hg0, by omega, HG2⟩
    case round =>
     clear hgq hgr hg1 hg0 HG2;have c2' : wt.cell? ⟨w1.heap.size, i + (k + 2) - 2, none⟩ = some (.int .u32 (x2 : Int)) := c2;obtain ⟨g, r, rfl, rfl, hq1, hg, hr, HI2⟩ := hrel;obtain ⟨p, hp⟩ : ∃ p : Nat, p = g * sec := ⟨_, rfl⟩;have hp2 : p ≤ 1000000001000000000 := by rw [hp]; exact Nat.le_trans (Nat.mul_le_mul hg (show sec ≤ 999999999 by omega)) (by decide)
     have hp3 : (g : Int) * (sec : Int) = (p : Int) := by rw [hp]; simp
     have HP := hii hp; clear hp;obtain ⟨y, hy⟩ : ∃ y : Nat, y = r * 1000000000 + x2 := ⟨_, rfl⟩;have hy2 : y ≤ 1000000000000000000 := by omega
     have hy3 : (r : Int) * 1000000000 + (x2 : Int) = (y : Int) := by rw [hy]; simp
     have HY := hii hy; clear hy
     by_cases hyes : (1000000000 : Int) ≤ g ∨ (y : Int) < p
     ·have hlt : qd < g := HG.out.step g r HI2.out (by rw [← HP.out, ← HY.out]; omega);have hyes' : (1000000000 : Int) ≤ g ∨ (¬ (1000000000 : Int) ≤ g ∧ (y : Int) < p) := by omega
      clear hyes
      by_cases hr2 : (1000000000 : Int) ≤ (r : Int) + top
      ·have HF := hii (HG.out.fin (g - 1) (r + top) (by have := HI2.out; rw [Nat.sub_mul, Nat.one_mul]; have : top ≤ g * top := Nat.le_mul_of_pos_left _ (by omega); omega) (by omega) (.inr (by omega)));rcases hyes' with h | ⟨h, h'⟩
       ·go_wp2;go_meet
        case rel => exact ⟨g - 1, r + top, by rw [Int.ofNat_sub (by omega)]; rfl, by go_num, by omega, HF.out, by omega, rfl⟩
       ·have hb : decide ((1000000000 : Int) ≤ (g : Int)) = false := by simpa using h
        go_wp2;go_meet
        case rel => exact ⟨g - 1, r + top, by rw [Int.ofNat_sub (by omega)]; rfl, by go_num, by omega, HF.out, by omega, rfl⟩
      ·rcases hyes' with h | ⟨h, h'⟩
       ·go_wp2;go_round
        case rel => exact ⟨g - 1, r + top, by rw [Int.ofNat_sub (by omega)]; rfl, by go_num, by omega, by omega, by omega, hii (by have := HI2.out; rw [Nat.sub_mul, Nat.one_mul]; have : top ≤ g * top := Nat.le_mul_of_pos_left _ (by omega); omega)⟩
        case measure => (simp [intOf]; try omega)
       ·have hb : decide ((1000000000 : Int) ≤ (g : Int)) = false := by simpa using h
        go_wp2;go_round
        case rel => exact ⟨g - 1, r + top, by rw [Int.ofNat_sub (by omega)]; rfl, by go_num, by omega, by omega, by omega, hii (by have := HI2.out; rw [Nat.sub_mul, Nat.one_mul]; have : top ≤ g * top := Nat.le_mul_of_pos_left _ (by omega); omega)⟩
        case measure => (simp [intOf]; try omega)
     ·have h : ¬ (1000000000 : Int) ≤ g := by omega
      have h' : ¬ (y : Int) < p := by omega
      clear hyes;have HF := hii (HG.out.fin g r HI2.out (by omega) (.inl (by rw [← HP.out, ← HY.out]; omega)));have hb : decide ((1000000000 : Int) ≤ (g : Int)) = false := by simpa using h
      go_wp2;go_meet
      case rel => exact ⟨g, r, rfl, rfl, hq1, HF.out, by omega, rfl⟩
   case rest =>
    obtain ⟨g, r, rfl, rfl, hq1, hq2, hg, rfl⟩ := hcut;clear c2 hgq hgr hg1 hg0 HG2;obtain ⟨ay, cy, ey, hcy, hUy⟩ := howny.read;simp only [Value.slice.injEq] at ey;obtain ⟨rfl, hz9, rfl⟩ := ey;clear hz9 hcy;go_wp2_with fail;have hsub := subtract_any w1.heap.size w1.heap.size (u.length + 1) (u.length + 1) i (i + (k + 2) + 1 - i) (u.length + 1 - i) zs ys (some ⟨w2.heap.size, 0, none⟩) (k + 2) g wt (by rw [HZL.out]; omega) (by rw [HZL.out]; omega) (by rw [HYL.out]; omega) hg hoz hoy hownx hUy
     (by rintro b o h; simp only [Option.some.injEq, Addr.mk.injEq] at h; omega)
    rw [HYL.out] at hsub;(with_reducible refine hsub.mono ?_);clear hsub;rintro e w6 ⟨hS, htr⟩;rw [show i + (k + 2) + 1 - i = k + 3 by omega] at hS;obtain ⟨zs1, bo, qb, hzl1, hoz1, hbo, rfl, HQB, HX1, HFX, hown1⟩ := hS;have HZL1 := hii hzl1;have hzl3 : zs.length ≤ zs1.length := Nat.le_of_eq hzl1.symm;have hszs : w2.heap.size ≤ w4.heap.size := hbx.size;have hsz1 : w3.heap.size ≤ w4.heap.size := hby.size;have hownq1 := hownq.touch htr (by omega);have howny1 := howny.touch htr (by omega);have hbr1 := hbr.trans (htr.below nl);have hsz6 : w5.heap.size ≤ w6.heap.size := by rw [htr.size]; exact hsz
    have HXD := hii (Bi.pos_of_lt_mul HLT.out);have HYP2 := hii (Bi.val_lt_pow hoy HYL.out);have HS1 := hii (Bi.seg_lt (i := i) (m := k + 3) hoz1 (by omega));obtain ⟨z, hz⟩ := get_some (l := qs) (k := i) (by rw [HQL.out]; omega);have hcz := hownq1.at' hz;have hfz := hownq1.free i;clear hz hzl1 hownq howny hownx htr hbr hUy;rcases (show bo = 0 ∨ bo = 1 by omega) with rfl | rfl
    ·obtain rfl : qb = false := by cases qb with | false => rfl | true => exact absurd (HQB.out.1 rfl) (by decide)
     have HNO := hii (Bi.sub_no hq1 HQD.out HXD.out HX1.out);go_wp2;have hownq2 := hownq1.set i (g : Int) qd (by rw [HNO.out.1]);have htq : Touch w4.heap.size w6 (w6.setCell ⟨w4.heap.size, i, none⟩ (.int .u32 (g : Int))) := (Touch.refl w4.heap.size _).setCell (p := ⟨w4.heap.size, i, none⟩) rfl _;have hownx2 := hown1.touch htq (by omega);have howny2 := howny1.touch htq (by omega);have hbr2 := hbr1.setCell (p := ⟨w4.heap.size, i, none⟩) (by simp only; omega) (.int .u32 (g : Int));have hszf := htq.size;have HE := hii (Bi.round_end (J := ((i : Int) - 1 + 1).toNat) (by omega) HZL1.out HFX.out HST.out.2 hoz HNO.out.2.1 HNO.out.2.2 (by rw [HQL.out]; omega) (by omega) (by omega) HI.out);go_roundg i
     case measure => omega
     case rel => exact ⟨(i : Int) - 1, zs1, qs.set i qd, by omega, by omega, by omega, rfl, by rw [HZL1.out]; exact HZL.out, by rw [List.length_set]; exact HQL.out, hoz1, hoq.set _ HG.out.lt, hii HE.out.1, hii HE.out.2, hownx2, hownq2, howny2, by omega, hbr2⟩
    ·obtain rfl : qb = true := HQB.out.2 rfl;obtain ⟨ay, cy, ey, hcy, hUy⟩ := howny1.read;simp only [Value.slice.injEq] at ey;obtain ⟨rfl, hz9, rfl⟩ := ey;clear hz9 hcy;go_wp2_with fail;have hsub := restore_any w1.heap.size w1.heap.size (u.length + 1) (u.length + 1) i (i + (k + 2) + 1 - i) (u.length + 1 - i) zs1 ys (some ⟨w2.heap.size, 0, none⟩) (k + 2) w6 (by rw [HZL1.out, HZL.out]; omega) (by omega) (by rw [HYL.out]; omega) hoz1 hoy hown1 hUy
      (by rintro b o h; simp only [Option.some.injEq, Addr.mk.injEq] at h; omega)
     rw [HYL.out] at hsub;(with_reducible refine hsub.mono ?_);clear hsub;rintro e w7 ⟨hS, htr⟩;rw [show i + (k + 2) + 1 - i = k + 3 by omega] at hS;obtain ⟨zs2, ca, hzl2', hoz2, hca, rfl, HX2, HFX2, hown2⟩ := hS;have HZL2 : Hid (zs2.length = zs.length) := hii (hzl2'.trans HZL1.out);have hzl4 : zs.length ≤ zs2.length := by rw [HZL2.out]; exact nl
     have hownq2 := hownq1.touch htr (by omega);have howny2 := howny1.touch htr (by omega);have hbr2 := hbr1.trans (htr.below nl);have hsz7 : w5.heap.size ≤ w7.heap.size := by rw [htr.size]; exact hsz6
     have HNO := hii (Bi.sub_yes hq1 hq2 HQD.out HXD.out HYP2.out HS1.out (Bi.seg_lt (i := i) (m := k + 3) hoz2 (by omega)) hca HX1.out HX2.out);obtain ⟨z', hz'⟩ := get_some (l := qs) (k := i) (by rw [HQL.out]; omega);have hcz := hownq2.at' hz';have hfz := hownq2.free i;have hg1 : 1 ≤ g := by have := HNO.out.1; omega
     clear hz' hzl2' hownq1 howny1 hown1 htr hbr1 hUy;go_wp2;have hownq3 := hownq2.set i ((g : Int) - 1) qd (by have := HNO.out.1; omega);have htq : Touch w4.heap.size w7 (w7.setCell ⟨w4.heap.size, i, none⟩ (.int .u32 ((g : Int) - 1))) := (Touch.refl w4.heap.size _).setCell (p := ⟨w4.heap.size, i, none⟩) rfl _;have hownx3 := hown2.touch htq (by omega);have howny3 := howny2.touch htq (by omega);have hbr3 := hbr2.setCell (p := ⟨w4.heap.size, i, none⟩) (by simp only; omega) (.int .u32 ((g : Int) - 1));have hszf := htq.size;have HE := hii (Bi.round_end (J := ((i : Int) - 1 + 1).toNat) (by omega) HZL2.out (fun j hj => (HFX2.out j hj).trans (HFX.out j hj)) HST.out.2 hoz HNO.out.2.1 HNO.out.2.2 (by rw [HQL.out]; omega) (by omega) (by omega) HI.out);go_roundg i
     case measure => omega
     case rel => exact ⟨(i : Int) - 1, zs2, qs.set i qd, by omega, by omega, by omega, rfl, by rw [HZL2.out]; exact HZL.out, by rw [List.length_set]; exact HQL.out, hoz2, hoq.set _ HG.out.lt, hii HE.out.1, hii HE.out.2, hownx3, hownq3, howny3, by omega, hbr3⟩
theorem divide_any (m n : Nat) (u v : List Nat) (Hu : Hid (u = Bi.limbs m)) (Hv : Hid (v = Bi.limbs n)) (au av : Option Addr) (cu cv : Nat) (w : World) (hmu : u.length ≤ 100000000) (hmv : v.length ≤ 100000000) (hn : 0 < n)
  (hu : U w au u) (hv : U w av v) :
  Calls Tryz.prog 196 #[.slice au u.length cu, .slice av v.length cv] w fun e w' => DivP w' m n e ∧ Below w.heap.size w w' := by
 rcases Nat.lt_or_ge m n with h | h
 ·exact divide_lt m n u v Hu Hv au av cu cv w (by omega) (by omega) (hii h) hu hv
 ·have hvu : v.length ≤ u.length := by
   apply Nat.le_of_not_lt; intro h2
   rw [Hu.out, Hv.out] at h2;have := Bi.val_lt_of_length h2;omega
  have hv0 : v ≠ [] := by intro h2; have := Hv.out; rw [h2] at this; have := Bi.limbs_eq_nil.1 this.symm; omega
  match hl : v, hv0 with
  | [x], _ =>
   have hx : x = n := by have := congrArg Bi.val Hv.out; rw [Bi.val_limbs] at this; simpa [Bi.val] using this
   subst hx;have hx9 : x < 1000000000 := by have := Bi.limbs_ok x; rw [← Hv.out] at this; exact this.head
   exact divide_one m x u Hu au av cu cv w (by omega) hn hx9 (hii h) hu hv
  | x :: y :: r, _ =>
   have := divide_big m n r.length u (x :: y :: r) Hu Hv au av cu cv w hmu (by simp) (hii h) hu hv (by simpa using hvu)
   simpa using this
end Go.Proofs.YtgfpbghgpdpepaaGreatDoor
