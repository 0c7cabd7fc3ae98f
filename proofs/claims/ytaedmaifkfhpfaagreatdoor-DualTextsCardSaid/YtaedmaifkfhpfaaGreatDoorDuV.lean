/-
  Bound, in the reference.
-/
import Derived.Test.YtaedmaifkfhpfaaGreatDoorDuS
import Derived.Test.YtaedmaifkfhpfaaGreatDoorD5
import Derived.Test.YtaedmaifkfhpfaaGreatDoorShelfE
import Derived.Test.YtaedmaifkfhpfaaGreatDoorOQ
import Derived.Test.YtaedmaifkfhpfaaGreatDoorShelfF
set_option linter.unusedVariables false
set_option linter.unusedSimpArgs false
set_option maxRecDepth 100000
set_option maxHeartbeats 25600000
namespace Go.Proofs.YtaedmaifkfhpfaaGreatDoor
open Go.RowKit
theorem made_at (z:Array Value) (n j:Nat) (h:j < n):(madeCells z n).toList[j]?=some (z[j % z.size]!):=by
 unfold madeCells;simp [h]
theorem madeQ (w:World) (n:Nat):MQ (w.alloc (.cells (madeCells #[.bool false,.slice none 0 0,.bool false,.slice none 0 0] (n * 4)) 26)) w.heap.size (List.replicate n none):=by
 refine ⟨(madeCells #[.bool false,.slice none 0 0,.bool false,.slice none 0 0] (n * 4)).toList,?_,?_,?_,?_⟩
 ·have:=heap_alloc_new w (.cells (madeCells #[.bool false,.slice none 0 0,.bool false,.slice none 0 0] (n * 4)) 26)
  simpa [Row] using this
 ·simp [size_madeCells]
 ·intro u hu k z e;obtain ⟨j,hj⟩:=List.getElem?_of_mem hu;have hlt:j < n * 4:=by
   have:=(List.getElem?_eq_some_iff.1 hj).1
   simpa [size_madeCells] using this
  rw [made_at _ _ _ hlt] at hj;have h4:j % 4 < 4:=Nat.mod_lt _ (by decide);simp only [Option.some.injEq] at hj;subst e;simp only [List.size_toArray,List.length_cons,List.length_nil,Nat.zero_add,Nat.reduceAdd] at hj
  match hm:j % 4,h4 with
  | 0,_ => rw [hm] at hj; simp at hj
  | 1,_ => rw [hm] at hj; simp at hj
  | 2,_ => rw [hm] at hj; simp at hj
  | 3,_ => rw [hm] at hj; simp at hj
 ·intro i o hi;rw [List.getElem?_replicate] at hi
  split at hi
  ·next hlt =>
   cases hi
   have e:∀ m,m < 4→(i * 4 + m) % 4=m:=fun m hm => by omega
   refine ⟨false,none,0,0,false,none,0,0,?_,?_,?_,?_,vq_zero _⟩
   ·rw [made_at _ _ _ (by omega)]; simp
   ·rw [made_at _ _ _ (by omega)]; simp [e 1 (by omega)]
   ·rw [made_at _ _ _ (by omega)]; simp [e 2 (by omega)]
   ·rw [made_at _ _ _ (by omega)]; simp [e 3 (by omega)]
  ·cases hi
section
variable {ops : Array Oper} {rest : List Oper} {o : Oper} {a : Act} {Q : Exit → Act → World → Prop}
theorem make_q (w:World) (hg:o.guard=none) (l c:Operand) (hop:o.op=Op.makeSlice 27 l c) (n:Nat)
  (hl:a.eval l=.int .i64 n) (hc:a.eval c=.int .i64 n) (hn:n≤1000000)
  (hK:∀ w',MQ w' w.heap.size (List.replicate n none)→Below w.heap.size w w'→wpList Tryz.prog ops Q rest (a.put o.dst (.slice (some ⟨w.heap.size,0,none⟩) n n)) w') :
  wpList Tryz.prog ops Q (o :: rest) a w:=by
 obtain ⟨i0,hi,hz0,hz1,hz2⟩:=info_parts Tryz.info26;have hr:=run_makeSlice (P:=Tryz.prog) w 27 26 i0 (.agg #[.bool false,.slice none 0 0,.bool false,.slice none 0 0]) Tryz.underlying27 hi hz0 .i64 .i64 n n (by omega) (by omega)
  (by rw [hz1]; omega) (by rw [hz2]; omega) (by omega)
 simp only [Int.toNat_natCast] at hr;refine wpList_plain hg fun K hK' => ?_
 unfold Oper.wp;simp [execOp,hop,hl,hc,hr,Result.andThen];refine hK' _ _ (hK _ ?_ (bA _ _));rw [hz1];exact madeQ w n
end
section
variable {p : Prg} {y : List Qo}
theorem bnd_chk (h:chkErr p (zeros p) y ≠ 0):bndR p y=(chkErr p (zeros p) y,0):=if_pos h
theorem bnd_none (h:chkErr p (zeros p) y=0) (h1:dotO (valsQ p.B) (valsQ y)=none):bndR p y=(3,0):=by
 unfold bndR; rw [if_neg (by simpa using h),show dotO p.rB (valsQ y)=none from h1]
theorem bnd_ok {b:Rat} (h:chkErr p (zeros p) y=0) (h1:dotO (valsQ p.B) (valsQ y)=some b):bndR p y=(0,b):=by
 unfold bndR; rw [if_neg (by simpa using h),show dotO p.rB (valsQ y)=some b from h1]
end
def RepQ (w:World) (g n k:Nat) (v4:List Value):Prop :=
 ∃ xs,Row w g 26 xs∧xs.length=n * 4∧∀ j,j < k * 4→xs[j]?=v4[j % 4]?
theorem RepQ.mono {w w':World} {g n k:Nat} {v4:List Value} (h:RepQ w g n k v4) (hb:Below w.heap.size w w'):RepQ w' g n k v4:=by
 obtain ⟨xs,h1,h2,h3⟩:=h;exact ⟨xs,h1.below hb,h2,h3⟩
theorem add_off (g o j:Nat):(⟨g,o,none⟩:Addr).add j=⟨g,o + j,none⟩:=by
 unfold Addr.add; split
 ·subst j; rfl
 ·rfl
theorem run_copy4 (w:World) (g n k m:Nat) (v4:List Value) (hR:RepQ w g n k v4) (hv:v4.length=4) (h1:∀ u∈v4,u.oneCell'=true) (a:Addr) (sLen sCap dCap:Nat) (hm:m=Nat.min sLen (n - k)) (hkn:k≤n)
  (hsrc:∀ j u,j < m * 4→v4[j % 4]?=some u→w.cell? (a.add j)=some u) :
  ∃ w',(∀ ty,(Builtin.copy_ #[27,27] ty #[.slice (some ⟨g,k * 4,none⟩) (n - k) dCap,.slice (some a) sLen sCap]).run Tryz.prog w=.ok (.int .i64 m) w')∧RepQ w' g n (k + m) v4∧Kept (fun b => b=g) w w':=by
 obtain ⟨i0,hi,hz0,hz1,hz2⟩:=info_parts Tryz.info26;obtain ⟨xs,hr,hx,hk⟩:=hR
 let cs:List Value:=(List.range (m * 4)).map fun j => v4.getD (j % 4) undef
 have hcl:cs.length=m * 4:=by simp [cs]
 have hat:∀ j,j < m * 4→cs[j]?=v4[j % 4]?:=by
  intro j hj;have h4:j % 4 < v4.length:=by rw [hv]; exact Nat.mod_lt _ (by decide)
  simp only [cs,List.getElem?_map,List.getElem?_range hj,Option.map_some,List.getD_eq_getElem?_getD,gE h4,Option.getD_some]
 have hmn:m≤n - k:=by rw [hm]; exact Nat.min_le_right _ _
 have hl:=run_loadCells_list (P:=Tryz.prog) (w:=w) a cs (fun j u hj => by
  have hlt:j < m * 4:=by have:=(List.getElem?_eq_some_iff.1 hj).1; omega
  exact hsrc j u hlt (by rw [← hat j hlt]; exact hj))
 have hmem:∀ u∈cs,u.oneCell'=true:=by
  intro u hu;obtain ⟨j,hj⟩:=List.getElem?_of_mem hu;have hlt:j < m * 4:=by have:=(List.getElem?_eq_some_iff.1 hj).1; omega
  rw [hat j hlt] at hj;exact h1 u (List.mem_of_getElem? hj)
 have hst:=run_storeCells_at (P:=Tryz.prog) g (k * 4) 26 cs 0 xs.toArray w hr (by simp [hcl,hx]; omega) hmem;simp only [Nat.add_zero] at hst;have hrun:∀ ty,(Builtin.copy_ #[27,27] ty #[.slice (some ⟨g,k * 4,none⟩) (n - k) dCap,.slice (some a) sLen sCap]).run Tryz.prog w=.ok (.int .i64 m) (w.setRow g (xs.take (k * 4) ++ cs ++ xs.drop (k * 4 + cs.length)).toArray):=by
  intro ty;have hl2:(loadCells a (m * 4)).run Tryz.prog w=.ok cs.toArray w:=by rw [← hcl]; exact hl
  simp [Builtin.copy_,run_underlying Tryz.underlying27,Builtin.lenOf,Builtin.firstCells,sizeOf,typeInfo,hi,hz1,hl2,hst,← hm,goInt]
 refine ⟨_,hrun,⟨xs.take (k * 4) ++ cs ++ xs.drop (k * 4 + cs.length),setRow_heap w g _ _ _ _ hr,?_,?_⟩,(Kept.refl (G:=fun b => b=g) w).setRow rfl _⟩
 ·simp [hcl,hx]; omega
 ·intro j hj
  by_cases h2:j < k * 4
  ·rw [List.append_assoc,List.getElem?_append_left (by simp; omega),List.getElem?_take,if_pos h2]; exact hk j h2
  ·have hlt:j - k * 4 < m * 4:=by omega
   have hlen:(xs.take (k * 4)).length=k * 4:=by simp; omega
   rw [List.append_assoc,List.getElem?_append_right (by omega),hlen,List.getElem?_append_left (by omega),hat _ hlt];rw [show (j - k * 4) % 4=j % 4 by omega]
theorem oper_copy {P:Program} {o:Oper} {a:Act} {Q:Exit→Act→World→Prop} {next:Act→World→Prop} {T:TypeId} {v u v':Value} {w w':World} (s x:Operand) (ho:o.op=.call { callee:=.builtin .copy,args:=#[s,x],argTypes:=#[T,T] }) (hs:a.eval s=v) (hx:a.eval x=u)
  (hr:(Builtin.copy_ #[T,T] o.type #[v,u]).run P w=.ok v' w') (hK:next (a.put o.dst v') w'):o.wp P a w next Q:=by
 unfold Oper.wp;simp [execOp,ho,resolve,invoke,builtin,hs,hx,hr,Result.andThen];exact hK
theorem RepQ.all {w:World} {g n:Nat} {n1:Bool} {a1:Option Addr} {l1 c1:Nat} {n2:Bool} {a2:Option Addr} {l2 c2:Nat} {o:Qo} (h:RepQ w g n n [.bool n1,.slice a1 l1 c1,.bool n2,.slice a2 l2 c2]) (hv:QV w (.agg #[.bool n1,.slice a1 l1 c1,.bool n2,.slice a2 l2 c2]) o):UQ w (some ⟨g,0,none⟩) (List.replicate n o):=by
 obtain ⟨xs,h1,h2,h3⟩:=h;intro i q hi;rw [List.getElem?_replicate] at hi
 split at hi
 ·next hlt =>
  cases hi
  have hc:∀ j u,xs[j]?=some u→w.cell? ⟨g,0 + j,none⟩=some u:=by
   intro j u hu;obtain ⟨hj,rfl⟩:=List.getElem?_eq_some_iff.1 hu;rw [Nat.zero_add]; exact h1.cell hj
  have e:∀ m,m < 4→(i * 4 + m) % 4=m:=fun m hm => by omega
  refine ⟨g,0,n1,a1,l1,c1,n2,a2,l2,c2,rfl,⟨hc (i * 4) _ ?_,hc (i * 4 + 1) _ ?_,hc (i * 4 + 2) _ ?_,hc (i * 4 + 3) _ ?_,trivial,trivial,trivial,trivial⟩,hv⟩
  ·rw [h3 _ (by omega)]; simp
  ·rw [h3 _ (by omega),e 1 (by omega)]; simp
  ·rw [h3 _ (by omega),e 2 (by omega)]; simp
  ·rw [h3 _ (by omega),e 3 (by omega)]; simp
 ·cases hi
theorem u64_of (z:Nat) (h:z < 18446744073709551616):IntKind.u64.wrap (z:Int)=(z:Int):=by
 simp [IntKind.wrap,IntKind.bits,IntKind.signed]; omega
theorem i64_of (z:Nat) (h:z < 9223372036854775808):IntKind.i64.wrap (z:Int)=(z:Int):=by
 simp [IntKind.wrap,IntKind.bits,IntKind.signed]; omega
theorem Repeat_one (n b:Nat) (n1:Bool) (a1:Option Addr) (l1 c1:Nat) (n2:Bool) (a2:Option Addr) (l2 c2:Nat) (w:World) (hn:n≤1000000) (hB:Box4 w b (.bool n1) (.slice a1 l1 c1) (.bool n2) (.slice a2 l2 c2)) :
  Calls Tryz.prog 34 #[.slice (some ⟨b,0,none⟩) 1 1,.int .i64 n] w fun e w' => (∃ g,e=.returned (.slice (some ⟨g,0,none⟩) n n)∧RepQ w' g n n [.bool n1,.slice a1 l1 c1,.bool n2,.slice a2 l2 c2])∧Below w.heap.size w w':=by
 have Hn:=hii hn;have hw1:IntKind.u64.wrap (n:Int)=(n:Int):=u64_of n (by omega);have hw2:IntKind.i64.wrap (n:Int)=(n:Int):=i64_of n (by omega);have hd:n / 18446744073709551616=0:=Nat.div_eq_of_lt (by omega);have hm:n % 18446744073709551616=n:=Nat.mod_eq_of_lt (by omega);have g1:¬ (9223372036854775807:Int) < (n:Int):=by omega
 go_enter Tryz.func34,Tryz.ntmps34;go_wp2_with fail;have hM:=Tryz.bits_Mul 1 n (by decide) (by omega) w;rw [Nat.one_mul,hd,hm] at hM;simp only [Int.natCast_one,Int.natCast_zero] at hM;(with_reducible refine hM.mono ?_);rintro e w1 ⟨rfl,rfl⟩;obtain ⟨v4,hv4⟩:∃ v4:List Value,v4=[.bool n1,.slice a1 l1 c1,.bool n2,.slice a2 l2 c2]:=⟨_,rfl⟩;have hvl:Hid (v4.length=4):=hii (by rw [hv4]; rfl);have hv1:Hid (∀ u∈v4,u.oneCell'=true):=hii (by rw [hv4]; intro u hu; simp at hu; rcases hu with rfl | rfl | rfl | rfl <;> rfl);have hsrc:Hid (∀ (W:World),Below w1.heap.size w1 W→∀ j u,j < 4→v4[j % 4]?=some u→W.cell? ((⟨b,0,none⟩:Addr).add j)=some u):=hii (by
  intro W hb j u hj hu;have hB:=hB.mono hb;rw [hv4,Nat.mod_eq_of_lt hj] at hu;rw [add_off,Nat.zero_add]
  match j,hj with
  | 0,_ => simp at hu; subst hu; exact hB.c0
  | 1,_ => simp at hu; subst hu; exact hB.c1
  | 2,_ => simp at hu; subst hu; exact hB.c2
  | 3,_ => simp at hu; subst hu; exact hB.c3)
 have Hv4:=hii hv4;clear hv4 hM hB;go_wp2_with (at_make; refine make_q w1 rfl _ _ rfl n rfl rfl hn ?_; intro w2 hQ hb);have hR:RepQ w2 w1.heap.size n 0 v4:=by
  obtain ⟨xs,h1,h2,_⟩:=hQ;exact ⟨xs,h1,by simpa using h2,fun j hj => by omega⟩
 obtain ⟨g,hg⟩:∃ g,g=w1.heap.size:=⟨_,rfl⟩;have Hg:Hid (w1.heap.size≤g):=hii (by omega);simp only [← hg] at hR ⊢;obtain ⟨w3,hr,hR3,hk3⟩:=run_copy4 w2 g n 0 (Nat.min 1 n) v4 hR hvl.out hv1.out ⟨b,0,none⟩ 1 1 n (by rw [Nat.sub_zero]) (Nat.zero_le _) (fun j u hj hu => hsrc.out w2 hb j u (by have:Nat.min 1 n≤1:=Nat.min_le_left 1 n; omega) hu);simp only [Nat.zero_mul,Nat.sub_zero,Nat.zero_add] at hr hR3;have hbw:Below w1.heap.size w1 w3:=hb.trans (hk3.below (fun b hb => by rw [hb]; exact Hg.out) hb.size);clear hg hR hQ hb hk3 hsrc;go_wp2_with fail;rw [hr];clear hr;go_wp2_with fail;go_loopw [8] (fun s wr => ∃ k:Nat,k≤n∧s=.int .i64 k∧(n ≠ 0→0 < k)∧RepQ wr g n k v4∧Below w1.heap.size w1 wr) (fun s _ => n - (intOf s).toNat)
 case atStart => exact ⟨Nat.min 1 n,Nat.min_le_right _ _,rfl,fun h => by have:=Nat.le_min.2 ⟨Nat.le_refl 1,(by omega:1≤n)⟩; exact this,hR3,hbw⟩
 case round =>
  clear hR3 hbw;obtain ⟨k,hk,rfl,hk0,hR,hbw⟩:=hrel
  by_cases hlt:k < n
  ·have hk1:=hk0 (by omega);clear hk0;obtain ⟨m,hmin⟩:∃ m,m=Nat.min k (n - k):=⟨_,rfl⟩;have hml:m≤k:=by rw [hmin]; exact Nat.min_le_left _ _
   have hmr:m≤n - k:=by rw [hmin]; exact Nat.min_le_right _ _
   have hm1:0 < m:=by rw [hmin]; exact Nat.lt_min.2 ⟨hk1,by omega⟩
   have hmn:k + m≤n:=by omega
   have hnk:¬ n=k:=by omega
   have Hml:=hii hml;have Hwr:Hid (IntKind.i64.wrap ((k:Int) + (m:Int))=(k:Int) + (m:Int)):=hii (by have:=i64_of (k + m) (by omega); simpa using this);have Hmin:=hii hmin;clear hmin;go_upto_region 9 with fail;refine wp_region_use2 (wx:=w1) [(fun _ v => v=.int .i64 k),(fun W v => v=.slice (some ⟨g,0,none⟩) n n∧RepQ W g n k v4),(fun _ v => v=.int .i64 k),(fun W v => v=.slice (some ⟨g,k * 4,none⟩) (n - k) (n - k)∧RepQ W g n k v4),(fun _ v => v=.slice (some ⟨g,0,none⟩) n n),(fun _ v => v=.int .i64 k),(fun _ v => v=.slice (some ⟨g,0,none⟩) k n),(fun W v => v=.int .i64 m∧RepQ W g n (k + m) v4),(fun _ v => v=.int .i64 ((k:Int) + (m:Int))),(fun _ v => v=.int .i64 ((k:Int) + (m:Int)))] [none,some 3,none,some 7,none,none,none,none,none,none] [true,false,true,false,true,true,true,false,true,true] [some 38,some 39,some 40,some 41,some 42,some 43,some 44,some 45,some 46,some 8] [38,39,40,41,42,43,44,45,46,8] 1 7 (fun W _ => RepQ W g n k v4) [(8,.int .i64 k)] (by decide) (by kernel_rfl) (by kernel_rfl) (by kernel_rfl) (by kernel_rfl) (of_decide_eq_true (by kernel_rfl)) (by kernel_rfl) (by kernel_rfl) (hR.mono br.drew) (fun _ _ _ h hb => h.mono hb) (by kernel_rfl) ⟨rfl,trivial⟩ (hbw) ⟨sV _,fun _ _ _ ⟨e,h⟩ hb => ⟨e,h.mono hb⟩,sV _,fun _ _ _ ⟨e,h⟩ hb => ⟨e,h.mono hb⟩,sV _,sV _,sV _,fun _ _ _ ⟨e,h⟩ hb => ⟨e,h.mono hb⟩,sV _,sV _,trivial⟩ ⟨fun _ => cV _,(fun h => absurd h (by decide)),fun _ => cV _,(fun h => absurd h (by decide)),fun _ => cV _,fun _ => cV _,fun _ => cV _,(fun h => absurd h (by decide)),fun _ => cV _,fun _ => cV _,trivial⟩ ⟨?s0,?s1,?s2,?s3,?s4,?s5,?s6,?s7,?s8,?s9,trivial⟩ ?he
   case s0 | s2 | s4 | s5 =>
    rintro T W hb hp hI hA K hK;have i8:T 8=.int .i64 k:=hI.1;simp only [ovr,Act.put,List.setIfInBounds_toArray,List.set_cons_zero,List.set_cons_succ,i8] at hK ⊢;have HK:=hii hK;clear hK hA;refine wO rfl (by rfl) ?_;go_simp;exact HK.out _ _ ⟨hb,fun _ => br⟩ rfl
   case s1 =>
    rintro T W hb hp hI hA K hK;have i8:T 8=.int .i64 k:=hI.1;have hp:=hp rfl;simp only [ovr,Act.put,List.setIfInBounds_toArray,List.set_cons_zero,List.set_cons_succ,i8] at hK ⊢;have HK:=hii hK;clear hK hA;refine wO rfl (by rfl) ?_;go_simp;exact HK.out _ _ ⟨hb,fun _ => br⟩ (⟨rfl,hp⟩)
   case s3 =>
    rintro T W hb hp hI hA K hK;have i8:T 8=.int .i64 k:=hI.1;have r1:((fun W v => v=.slice (some ⟨g,0,none⟩) n n∧RepQ W g n k v4):World→Value→Prop) W (T 39):=hA.1 (by decide);have e2:T 40=.int .i64 k:=hA.2.1 (by decide);obtain ⟨e1,hR1⟩:=r1;simp only [ovr,Act.put,List.setIfInBounds_toArray,List.set_cons_zero,List.set_cons_succ,i8,e2,e1] at hK ⊢;have HK:=hii hK;clear hK hA;refine wO rfl (by rfl) ?_;go_simp;exact HK.out _ _ ⟨hb,fun _ => br⟩ (⟨rfl,hR1⟩)
   case s6 =>
    rintro T W hb hp hI hA K hK;have i8:T 8=.int .i64 k:=hI.1;have e4:T 42=.slice (some ⟨g,0,none⟩) n n:=hA.1 (by decide);have e5:T 43=.int .i64 k:=hA.2.1 (by decide);simp only [ovr,Act.put,List.setIfInBounds_toArray,List.set_cons_zero,List.set_cons_succ,i8,e4,e5] at hK ⊢;have HK:=hii hK;clear hK hA;refine wO rfl (by rfl) ?_;go_simp;exact HK.out _ _ ⟨hb,fun _ => br⟩ rfl
   case s7 =>
    rintro T W hb hp hI hA K hK;have i8:T 8=.int .i64 k:=hI.1;have r3:((fun W v => v=.slice (some ⟨g,k * 4,none⟩) (n - k) (n - k)∧RepQ W g n k v4):World→Value→Prop) W (T 41):=hA.1 (by decide);have e6:T 44=.slice (some ⟨g,0,none⟩) k n:=hA.2.1 (by decide);obtain ⟨e3,hR3⟩:=r3;simp only [ovr,Act.put,List.setIfInBounds_toArray,List.set_cons_zero,List.set_cons_succ,i8,e6,e3] at hK ⊢;have HK:=hii hK;clear hK hA;obtain ⟨w1',hr0,hR4,hk4⟩:=run_copy4 W g n k m v4 hR3 hvl.out hv1.out ⟨g,0,none⟩ k n (n - k) Hmin.out hk (fun j u hj hu => by
     obtain ⟨xs,q1,q2,q3⟩:=hR3;rw [add_off,Nat.zero_add];have hjk:j < k * 4:=by have:=Hml.out; omega
     have hx:=q3 j hjk;rw [hu] at hx;obtain ⟨hj2,rfl⟩:=List.getElem?_eq_some_iff.1 hx;exact q1.cell hj2)
    have hr:=hr0 3;have hbw1:Below w1.heap.size w1 w1':=hb.trans (hk4.below (fun b hb => by rw [hb]; exact Hg.out) hb.size);refine wO rfl (by rfl) ?_;refine oper_copy _ _ rfl rfl rfl hr ?_;simp only [Act.put,List.setIfInBounds_toArray,List.set_cons_zero,List.set_cons_succ];exact HK.out _ _ ⟨hbw1,fun h => absurd h (by decide)⟩ (⟨rfl,hR4⟩)
   case s8 =>
    rintro T W hb hp hI hA K hK;have i8:T 8=.int .i64 k:=hI.1;have e0:T 38=.int .i64 k:=hA.1 (by decide);have r7:((fun W v => v=.int .i64 m∧RepQ W g n (k + m) v4):World→Value→Prop) W (T 45):=hA.2.1 (by decide);obtain ⟨e7,_⟩:=r7;simp only [ovr,Act.put,List.setIfInBounds_toArray,List.set_cons_zero,List.set_cons_succ,i8,e0,e7] at hK ⊢;have HK:=hii hK;clear hK hA;refine wO rfl (by rfl) ?_;go_simp;exact HK.out _ _ ⟨hb,fun _ => br⟩ (congrArg (Value.int .i64) Hwr.out)
   case s9 =>
    rintro T W hb hp hI hA K hK;have i8:T 8=.int .i64 k:=hI.1;have e8:T 46=.int .i64 ((k:Int) + (m:Int)):=hA.1 (by decide);have r7:((fun W v => v=.int .i64 m∧RepQ W g n (k + m) v4):World→Value→Prop) W (T 45):=hA.2.1 (by decide);have e0:T 38=.int .i64 k:=hA.2.2.1 (by decide);have e2:T 40=.int .i64 k:=hA.2.2.2.2.1 (by decide);have e4:T 42=.slice (some ⟨g,0,none⟩) n n:=hA.2.2.2.2.2.2.1 (by decide);have e5:T 43=.int .i64 k:=hA.2.2.2.2.2.2.2.1 (by decide);have e6:T 44=.slice (some ⟨g,0,none⟩) k n:=hA.2.2.2.2.2.2.2.2.1 (by decide);obtain ⟨e7,_⟩:=r7;simp only [ovr,Act.put,List.setIfInBounds_toArray,List.set_cons_zero,List.set_cons_succ,i8,e8,e0,e2,e4,e5,e6,e7] at hK ⊢;have HK:=hii hK;clear hK hA;refine wO rfl (by rfl) ?_;go_simp;exact HK.out _ _ ⟨hb,fun _ => br⟩ rfl
   case he =>
    rintro T W hb hA;have f7:((fun W v => v=.int .i64 m∧RepQ W g n (k + m) v4):World→Value→Prop) W (T 45):=hA.of 7 (by decide) (by decide);have f9:T 8=.int .i64 ((k:Int) + (m:Int)):=hA.of 9 (by decide) (by decide);obtain ⟨-,hR5⟩:=f7;simp only [ovr,List.setIfInBounds_toArray,List.set_cons_zero,List.set_cons_succ,f9];clear hA f9;obtain ⟨wz,rfl⟩:∃ wz:World,wz=W:=⟨_,rfl⟩;go_wp2;go_roundw
    case rel => exact ⟨k + m,hmn,by simp,fun _ => by omega,hR5,hb⟩
    case measure => simp [intOf]; omega
  ·obtain rfl:k=n:=by omega
   go_wp2;go_ret;exact ⟨⟨g,rfl,by rw [← Hv4.out]; exact hR⟩,hbw⟩
theorem Bound_any (p:Prg) (y:List Qo) (vp:Value) (ay:Option Addr) (cy:Nat) (w:World) (h:PrgV w vp p) (hn:p.C.length≤1000000) (hyl:y.length≤1000000000) (uy:UQ w ay y) (hE:Env w) :
  Calls Tryz.prog 14 #[vp,.slice ay y.length cy] w fun e w' => ResE (bndR p y) w' e∧Below w.heap.size w w':=by
 obtain ⟨aA,cA,aB,cB,aC,cC,rfl,uA,uB,uC⟩:=h;go_enter Tryz.func14,Tryz.ntmps14;go_upto_region 1 with fail;obtain ⟨wx,hwx,rA,r6,hb⟩:=two_rows w 42 26 [.slice aA p.A.length cA,.slice aB p.B.length cB,.slice aC p.C.length cC] [.bool false,.slice none 0 0,.bool false,.slice none 0 0];simp only [List.toArray] at hwx;rw [← hwx];clear hwx;have Hge:Hid (w.heap.size≤w.heap.size + 1):=hii (by omega);obtain ⟨g2,hg2⟩:∃ g2,g2=w.heap.size + 1:=⟨_,rfl⟩;rw [← hg2] at r6 Hge ⊢;clear hg2;obtain ⟨g,hg⟩:∃ g,g=w.heap.size:=⟨_,rfl⟩;have hgg:w.heap.size=g:=hg.symm;simp only [hgg] at rA ⊢;have Hgg:=hii hgg;clear hg hgg;obtain ⟨w1,rfl⟩:∃ w1:World,w1=wx:=⟨_,rfl⟩;have hbw:=hb;have X6:=r6.box4;have uA:=uA.mono hb;have uB:=uB.mono hb;have uC:=uC.mono hb;have uy:=uy.mono hb;have hE:=hE.mono hb;clear hb r6;obtain ⟨E,hEE⟩:∃ E,E=chkErr p (zeros p) y:=⟨_,rfl⟩;have H_E:=hii hEE;clear hEE;refine wp_region_use (wx:=w1) [(fun _ v => v=.agg #[.slice aA p.A.length cA,.slice aB p.B.length cB,.slice aC p.C.length cC]),(fun W v => ∃ ng ao n cap nh ap m caq,v=.agg #[.bool ng,.slice ao n cap,.bool nh,.slice ap m caq]∧RatV W (.agg #[.bool ng,.slice ao n cap,.bool nh,.slice ap m caq]) 0),(fun W v => ∃ b ng ao n cap nh ap m caq,v=.slice (some ⟨b,0,none⟩) 1 1∧Box4 W b (.bool ng) (.slice ao n cap) (.bool nh) (.slice ap m caq)∧RatV W (.agg #[.bool ng,.slice ao n cap,.bool nh,.slice ap m caq]) 0),(fun _ v => v=.pointer (some ⟨g,2,none⟩)),(fun _ v => v=.slice aC p.C.length cC),(fun _ v => v=.int .i64 p.C.length),(fun W v => ∃ g,v=.slice (some ⟨g,0,none⟩) p.C.length p.C.length∧UQ W (some ⟨g,0,none⟩) (zeros p)),(fun _ v => v=.slice ay y.length cy),(fun _ v => v=.int .i64 E),(fun _ v => v=.int .i64 E)] [none,none,none,none,none,none,none,none,none,none] [true,false,false,true,true,true,false,true,true,true] [some 7,some 8,some 9,some 10,some 11,some 12,some 13,some 14,some 15,some 6] [7,8,9,10,11,12,13,14,15,6] 0 0 (fun _ _ => True) (by decide) (by kernel_rfl) (by kernel_rfl) (by kernel_rfl) (by kernel_rfl) (of_decide_eq_true (by kernel_rfl)) (by kernel_rfl) (by kernel_rfl) (trivial) (fun _ _ _ h _ => h) br ⟨sV _,fun _ _ _ ⟨a1,a2,a3,a4,a5,a6,a7,a8,e,h⟩ hb => ⟨a1,a2,a3,a4,a5,a6,a7,a8,e,h.mono hb⟩,fun _ _ _ ⟨b,a1,a2,a3,a4,a5,a6,a7,a8,e,h1,h2⟩ hb => ⟨b,a1,a2,a3,a4,a5,a6,a7,a8,e,h1.mono hb,h2.mono hb⟩,sV _,sV _,sV _,fun _ _ _ ⟨g,e,h⟩ hb => ⟨g,e,h.mono hb⟩,sV _,sV _,sV _,trivial⟩ ⟨fun _ => cV _,(fun h => absurd h (by decide)),(fun h => absurd h (by decide)),fun _ => cV _,fun _ => cV _,fun _ => cV _,(fun h => absurd h (by decide)),fun _ => cV _,fun _ => cV _,fun _ => cV _,trivial⟩ ⟨?s0,?s1,?s2,?s3,?s4,?s5,?s6,?s7,?s8,?s9,trivial⟩ ?he
 case s0 =>
  rintro T W hb hp hA K hK;have hp:=hp rfl;obtain ⟨x0,x1,x2⟩:=(rA.below hb).n3;simp only [ovr,Act.put,List.setIfInBounds_toArray,List.set_cons_zero,List.set_cons_succ] at hK ⊢;have HK:=hii hK;clear hK hA;refine wO rfl (by rfl) ?_;go_simp;exact HK.out _ _ ⟨hb,fun _ => br⟩ rfl
 case s1 =>
  rintro T W hb - hA K hK;simp only [ovr,Act.put,List.setIfInBounds_toArray,List.set_cons_zero,List.set_cons_succ] at hK ⊢;have HK:=hii hK;clear hK hA;refine wO rfl (by rfl) ?_;go_simp;(with_reducible refine (dzero_ok W (hE.mono hb)).mono ?_);rintro e w1 ⟨hz,hb1⟩;obtain ⟨ng1,ao1,n1,cap1,nh1,ap1,m1,caq1,rfl,hv0⟩:=hz.rat
  try dsimp only
  exact HK.out _ _ ⟨bu hb hb1,fun _ => hb1⟩ (⟨ng1,ao1,n1,cap1,nh1,ap1,m1,caq1,rfl,hv0⟩)
 case s2 =>
  rintro T W hb - hA K hK;have r1:((fun W v => ∃ ng ao n cap nh ap m caq,v=.agg #[.bool ng,.slice ao n cap,.bool nh,.slice ap m caq]∧RatV W (.agg #[.bool ng,.slice ao n cap,.bool nh,.slice ap m caq]) 0):World→Value→Prop) W (T 8):=hA.1 (by decide);obtain ⟨ng1,ao1,n1,cap1,nh1,ap1,m1,caq1,e1,hv0⟩:=r1;simp only [ovr,Act.put,List.setIfInBounds_toArray,List.set_cons_zero,List.set_cons_succ,e1] at hK ⊢;have HK:=hii hK;clear hK hA;refine wO rfl (by rfl) ?_;go_simp;obtain ⟨w1,hw1⟩:∃ w1,w1=W.alloc (.cells #[.bool ng1,.slice ao1 n1 cap1,.bool nh1,.slice ap1 m1 caq1] 26):=⟨_,rfl⟩;have hb1:Below W.heap.size W w1:=by rw [hw1]; exact bA W _
  have hB1:Box4 w1 W.heap.size (.bool ng1) (.slice ao1 n1 cap1) (.bool nh1) (.slice ap1 m1 caq1):=by rw [hw1]; exact Box4.new W (.bool ng1) (.slice ao1 n1 cap1) (.bool nh1) (.slice ap1 m1 caq1) 26
  rw [← hw1]
  try dsimp only
  exact HK.out _ _ ⟨bu hb hb1,fun _ => hb1⟩ (⟨_,ng1,ao1,n1,cap1,nh1,ap1,m1,caq1,rfl,hB1,hv0.mono hb1⟩)
 case s3 | s7 =>
  rintro T W hb - hA K hK;simp only [ovr,Act.put,List.setIfInBounds_toArray,List.set_cons_zero,List.set_cons_succ] at hK ⊢;have HK:=hii hK;clear hK hA;refine wO rfl (by rfl) ?_;go_simp;exact HK.out _ _ ⟨hb,fun _ => br⟩ rfl
 case s4 =>
  rintro T W hb - hA K hK;have e3:T 10=.pointer (some ⟨g,2,none⟩):=hA.1 (by decide);obtain ⟨x0,x1,x2⟩:=(rA.below hb).n3;simp only [ovr,Act.put,List.setIfInBounds_toArray,List.set_cons_zero,List.set_cons_succ,e3] at hK ⊢;have HK:=hii hK;clear hK hA;refine wO rfl (by rfl) ?_;go_simp;exact HK.out _ _ ⟨hb,fun _ => br⟩ rfl
 case s5 =>
  rintro T W hb - hA K hK;have e4:T 11=.slice aC p.C.length cC:=hA.1 (by decide);simp only [ovr,Act.put,List.setIfInBounds_toArray,List.set_cons_zero,List.set_cons_succ,e4] at hK ⊢;have HK:=hii hK;clear hK hA;refine wO rfl (by rfl) ?_;go_simp;exact HK.out _ _ ⟨hb,fun _ => br⟩ rfl
 case s6 =>
  rintro T W hb - hA K hK;have r2:((fun W v => ∃ b ng ao n cap nh ap m caq,v=.slice (some ⟨b,0,none⟩) 1 1∧Box4 W b (.bool ng) (.slice ao n cap) (.bool nh) (.slice ap m caq)∧RatV W (.agg #[.bool ng,.slice ao n cap,.bool nh,.slice ap m caq]) 0):World→Value→Prop) W (T 9):=hA.1 (by decide);have e5:T 12=.int .i64 p.C.length:=hA.2.1 (by decide);obtain ⟨b,ng1,ao1,n1,cap1,nh1,ap1,m1,caq1,e2,hB1,hv0⟩:=r2;simp only [ovr,Act.put,List.setIfInBounds_toArray,List.set_cons_zero,List.set_cons_succ,e5,e2] at hK ⊢;have HK:=hii hK;clear hK hA;refine wO rfl (by rfl) ?_;go_simp;(with_reducible refine (Repeat_one p.C.length b ng1 ao1 n1 cap1 nh1 ap1 m1 caq1 W hn hB1).mono ?_);rintro e w1 ⟨⟨gz,rfl,hR⟩,hb1⟩
  try dsimp only
  exact HK.out _ _ ⟨bu hb hb1,fun _ => hb1⟩ (⟨gz,rfl,hR.all (o:=some 0) (hv0.mono hb1)⟩)
 case s8 =>
  rintro T W hb - hA K hK;have e0:T 7=.agg #[.slice aA p.A.length cA,.slice aB p.B.length cB,.slice aC p.C.length cC]:=hA.1 (by decide);have r6:((fun W v => ∃ g,v=.slice (some ⟨g,0,none⟩) p.C.length p.C.length∧UQ W (some ⟨g,0,none⟩) (zeros p)):World→Value→Prop) W (T 13):=hA.2.1 (by decide);have e7:T 14=.slice ay y.length cy:=hA.2.2.1 (by decide);obtain ⟨gz,e6,uz⟩:=r6;simp only [ovr,Act.put,List.setIfInBounds_toArray,List.set_cons_zero,List.set_cons_succ,e0,e7,e6] at hK ⊢;have HK:=hii hK;clear hK hA;refine wO rfl (by rfl) ?_;go_simp;have hV:=dcheck_any p (zeros p) y _ (some ⟨gz,0,none⟩) ay p.C.length cy W ⟨aA,cA,aB,cB,aC,cC,rfl,uA.mono hb,uB.mono hb,uC.mono hb⟩ (by rw [len_zeros]; omega) hyl uz (uy.mono hb) (hE.mono hb);rw [len_zeros,← H_E.out] at hV;(with_reducible refine hV.mono ?_);rintro e w1 ⟨rfl,hb1⟩
  try dsimp only
  exact HK.out _ _ ⟨bu hb hb1,fun _ => hb1⟩ rfl
 case s9 =>
  rintro T W hb - hA K hK;have e8:T 15=.int .i64 E:=hA.1 (by decide);simp only [ovr,Act.put,List.setIfInBounds_toArray,List.set_cons_zero,List.set_cons_succ,e8] at hK ⊢;have HK:=hii hK;clear hK hA;refine wO rfl (by rfl) ?_;go_simp;exact HK.out _ _ ⟨hb,fun _ => br⟩ rfl
 case he =>
  rintro T W hb hA;have f9:T 6=.int .i64 E:=hA.of 9 (by decide) (by decide);have uB:=uB.mono hb;have uy:=uy.mono hb;have hE:=hE.mono hb;have rA:=rA.below hb;have X6:=X6.mono hb;have hbw:=bu hbw hb;clear hb;simp only [ovr,List.setIfInBounds_toArray,List.set_cons_zero,List.set_cons_succ,f9];clear hA f9;obtain ⟨wz,rfl⟩:∃ wz:World,wz=W:=⟨_,rfl⟩
  by_cases hz:E ≠ 0
  ·have g1:((E:Int) != 0)=true:=by rw [bne_iff_ne]; omega
   have Hz:=hii hz;clear hz;obtain ⟨b0,b1,b2,b3,_,_,_,_⟩:=id X6;go_wp2;refine bodyPost_ret (v:=.tuple #[.agg #[.bool false,.slice none 0 0,.bool false,.slice none 0 0],.int .i64 E]) (by simp [results,Tryz.results14,go_sem,b0,b1,b2,b3]) rfl ⟨ResE.no ((bnd_chk (by rw [← H_E.out]; exact Hz.out)).trans (by rw [← H_E.out])) Hz.out rfl,Below.put4 hbw Hge.out _ _ _ _⟩
  ·have Hc:Hid (chkErr p (zeros p) y=0):=hii (by rw [← H_E.out]; omega);obtain rfl:E=0:=by omega
   clear hz;obtain ⟨f1,f2,f3,f4,f5,f6,f7⟩:=chk_zero Hc.out;obtain ⟨_,z2,z3⟩:=err_some f1;obtain ⟨z4,_⟩:=err_zero f1;have Hy:=hii f3.symm;have Hby:=hii f5;have HbB:=hii z2;have hmB:p.B.length≤1000000000:=by omega
   clear f1 f2 f3 f4 f5 f6 f7 z2 z3 z4;obtain ⟨x0,x1,x2⟩:=rA.n3;obtain ⟨D,h_D⟩:∃ D,D=dotO (valsQ p.B) (valsQ y):=⟨_,rfl⟩;have H_D:=hii h_D;clear h_D;have HD:=hii (ddot_at (ca:=cB) (cb:=cy) Hy HbB Hby hmB uB uy hE);rw [← H_D.out] at HD;go_wp2_with fail;(with_reducible refine (HD.out).mono ?_);rintro e w1 ⟨hd,hb⟩;have X6:=X6.mono hb;have hbw:=bu hbw hb;clear hb;clear HD x0 x1 x2
   cases D with
   | none =>
    have hd:NoQ 3 e:=hd;unfold NoQ at hd;subst hd;obtain ⟨b0,b1,b2,b3,_,_,_,_⟩:=id X6;go_wp2;refine bodyPost_ret (v:=.tuple #[.agg #[.bool false,.slice none 0 0,.bool false,.slice none 0 0],.int .i64 3]) (by simp [results,Tryz.results14,go_sem,b0,b1,b2,b3]) rfl ⟨ResE.no (bnd_none Hc.out H_D.out.symm) (by decide) rfl,Below.put4 hbw Hge.out _ _ _ _⟩
   | some b =>
    have hd:GotQ _ b e:=hd;obtain ⟨ng1,ao1,n1,cap1,nh1,ap1,m1,caq1,rfl,h1,h2⟩:=hd;obtain ⟨b0,b1,b2,b3,_,_,_,_⟩:=id X6;go_wp2;refine bodyPost_ret (v:=.tuple #[.agg #[.bool ng1,.slice ao1 n1 cap1,.bool nh1,.slice ap1 m1 caq1],.int .i64 0]) (by simp [results,Tryz.results14,go_sem,b0,b1,b2,b3]) rfl ⟨ResE.got (bnd_ok Hc.out H_D.out.symm) ⟨ng1,ao1,n1,cap1,nh1,ap1,m1,caq1,rfl,hii (h1.out.put4B X6 _ _ _ _),hii (h2.out.put4B X6 _ _ _ _)⟩,Below.put4 hbw Hge.out _ _ _ _⟩
def sv (s:List UInt8):Value:=.string ⟨s.toArray⟩
def US (w:World) (ao:Option Addr) (l:List (List UInt8)):Prop :=
 ∀ i s,l[i]?=some s→∃ b off,ao=some ⟨b,off,none⟩∧w.cell? ⟨b,off + i,none⟩=some (.string ⟨s.toArray⟩)
theorem US.mono {w w':World} {ao:Option Addr} {l:List (List UInt8)} (h:US w ao l) (hb:Below w.heap.size w w'):US w' ao l:=by
 intro i s hi;obtain ⟨b,off,e,hc⟩:=h i s hi;exact ⟨b,off,e,(hb.cell (cell_lt hc)).trans hc⟩
theorem US.nil (w:World) (ao:Option Addr):US w ao []:=fun i s h => by simp at h
def OwnT (w:World) (B:Nat) (v:Value) (l:List (List UInt8)):Prop:=w.ownsRow B 9 1 v l.length (l.map sv)
theorem OwnT.nil (w:World) (B:Nat):OwnT w B (.slice none 0 0) []:=World.ownsRow_nil _ _ _ _
theorem OwnT.mono {w w':World} {B:Nat} {v:Value} {l:List (List UInt8)} (h:OwnT w B v l) (hb:Below w.heap.size w w'):OwnT w' B v l:=ownsRow_below h hb
theorem OwnT.read {w:World} {B:Nat} {v:Value} {l:List (List UInt8)} (h:OwnT w B v l):∃ ao cap,v=.slice ao l.length cap∧l.length≤cap∧US w ao l:=by
 have h1:=h;rcases h1.2 with ⟨rfl,hn⟩ | ⟨g,cap,cur,rfl,hB,hg,hnc,hcm,hcs,htake⟩
 ·have:l=[]:=List.eq_nil_of_length_eq_zero hn;subst this;exact ⟨none,0,rfl,nl,US.nil _ _⟩
 ·refine ⟨some ⟨g,0,none⟩,cap,rfl,hnc,?_⟩;intro i s hi;have:=h.cells (g:=g) rfl i (sv s) (by simp [hi]);have ha:(⟨g,0,none⟩:Addr).add i=⟨g,0 + i,none⟩:=add_off g 0 i;rw [ha] at this;exact ⟨g,0,rfl,this⟩
theorem Tryz.info9:(Tryz.prog.info? 9).map (fun i => (i.zero,i.size,i.bytes))=some (some (.string ByteArray.empty),1,16):=by kernel_rfl
section
variable {ops : Array Oper} {rest : List Oper} {o : Oper} {a : Act} {Q : Exit → Act → World → Prop}
theorem app_t (w:World) (hgd:o.guard=none) (s x:Operand) (ho:o.op=.call { callee:=.builtin .append,args:=#[s,x],argTypes:=#[50,50] })
  (W:World) (B:Nat) (v:Value) (l:List (List UInt8)) (t:List UInt8) (hs:a.eval s=v) (hown:OwnT w B v l) (hB:B≤w.heap.size) (hb:Below B W w)
  (hx:a.eval x=.slice (some ⟨w.heap.size,0,none⟩) 1 1) (hl:l.length≤1000000)
  (hK:∀ v' w',OwnT w' B v' (l ++ [t])→Below B W w'→w.heap.size≤w'.heap.size→wpList Tryz.prog ops Q rest (a.put o.dst v') w') :
  wpList Tryz.prog ops Q (o :: rest) a (w.alloc (.cells #[.string ⟨t.toArray⟩] 9)):=by
 obtain ⟨i0,hi,hz0,hz1,hz2⟩:=info_parts Tryz.info9;have hrow:w.ownsRow B 9 i0.size v l.length (l.map sv):=by rw [hz1]; exact hown
 obtain ⟨v',w',hr,h3,h4,h5⟩:=run_append_own (P:=Tryz.prog) (w.alloc (.cells #[.string ⟨t.toArray⟩] 9)) B 50 o.type 9 i0 (.string ByteArray.empty) i0.size i0.bytes Tryz.underlying50 hi hz0 rfl rfl
  (by rw [hz1]; rfl) (by rw [hz1]; decide) v l.length (l.map sv) (World.ownsRow.alloc hrow _) ⟨w.heap.size,0,none⟩ 1 1 [.string ⟨t.toArray⟩] (by rw [hz1]; rfl)
  (by
   intro j u hj
   match j,hj with
   | 0,hj => simp at hj; subst hj; simp [Addr.add,go_sem]
   | j + 1,hj => simp at hj)
  (by intro u hu; simp at hu; subst hu; rfl) (by unfold maxLen; omega) (by rw [hz2]; omega) (by simp; omega)
 refine wpList_plain hgd fun K hK' => ?_
 unfold Oper.wp;simp [execOp,ho,resolve,invoke,builtin,hs,hx,hr,Result.andThen];refine hK' _ _ (hK v' w' ?_ ?_ ?_)
 ·unfold OwnT;rw [List.length_append,List.map_append]; rw [hz1] at h3; exact h3
 ·refine (hb.alloc hB _).grown h4 (by simp; omega) ?_;intro k hk;exact (hrow.lt k hk).1
 ·have:=h4.size; simp at this; omega
end
def joinT (sep:List UInt8):List (List UInt8)→List UInt8
 | [] => []
 | a :: r => a ++ (r.map (sep ++ ·)).flatten
def sumL (l:List (List UInt8)):Nat:=l.flatten.length
theorem join_len (sep:List UInt8):∀ (r:List (List UInt8)),((r.map (sep ++ ·)).flatten).length=sep.length * r.length + sumL r
 | [] => by simp [sumL]
 | a :: r => by
  have:=join_len sep r;simp only [sumL,List.map_cons,List.flatten_cons,List.length_append,List.length_cons] at *;rw [Nat.mul_add]; omega
theorem sumL_take {l:List (List UInt8)} {k:Nat} {s:List UInt8} (h:l[k]?=some s):sumL (l.take (k + 1))=sumL (l.take k) + s.length:=by
 unfold sumL;rw [List.take_add_one,h]; simp
theorem sumL_le (l:List (List UInt8)) (k:Nat):sumL (l.take k)≤sumL l:=by
 have h:l.take k ++ l.drop k=l:=List.take_append_drop k l;have:=congrArg sumL h;unfold sumL at *;rw [List.flatten_append,List.length_append] at this;omega
theorem join_at {sep:List UInt8} {a:List UInt8} {r:List (List UInt8)} {k:Nat} {s:List UInt8} (h:r[k]?=some s):joinT sep (a :: r.take (k + 1))=joinT sep (a :: r.take k) ++ sep ++ s:=by
 simp only [joinT];rw [List.take_add_one,h]; simp
theorem Join_any (l:List (List UInt8)) (sep:List UInt8) (ao:Option Addr) (cap:Nat) (w:World) (hl:l.length≤100) (hc:l.length≤cap) (hsp:sep.length≤10) (h0:0 < sep.length) (hsm:sumL l≤50000) (ul:US w ao l) :
  Calls Tryz.prog 20 #[.slice ao l.length cap,.string ⟨sep.toArray⟩] w fun e w' => e=.returned (.string ⟨(joinT sep l).toArray⟩)∧Below w.heap.size w w':=by
 have Hsm:=hii hsm;have Hsp:=hii hsp
 match l,hl,hc,hsm,ul with
 | [],_,_,_,_ =>
  go_enter Tryz.func20,Tryz.ntmps20;go_wp2;go_ret;exact ⟨rfl,br⟩
 | [s],_,_,_,ul =>
  obtain ⟨b,off,rfl,c0⟩:=ul 0 s rfl;simp only [Nat.add_zero] at c0;have hJ:=hii (show joinT sep [s]=s by simp [joinT]);rw [hJ.out]
  show Calls _ _ #[.slice (some ⟨b,off,none⟩) 1 cap,_] _ _
  go_enter Tryz.func20,Tryz.ntmps20;go_wp2;go_ret;exact ⟨rfl,br⟩
 | s :: t :: r,hl,hc,hsm,ul =>
  obtain ⟨b,off,rfl,c0⟩:=ul 0 s rfl;obtain ⟨n,hn⟩:∃ n,n=(s :: t :: r).length:=⟨_,rfl⟩;obtain ⟨q,hq⟩:∃ q,q=t :: r:=⟨_,rfl⟩;have hqn:q.length + 1=n:=by rw [hn,hq]; rfl
  rw [← hq] at ul hsm hn ⊢;have hl':n≤100:=by rw [hn,hq]; exact hl
  have hc':n≤cap:=by rw [hn,hq]; exact hc
  have hq1:1≤q.length:=by rw [hq]; simp
  have Hsum:Hid (sumL (s :: q)≤50000):=hii hsm;rw [← hn];have Hn:=hii hn;clear hn hq hsm hl hc Hsm;have HU:=hii ul;clear ul;obtain ⟨m,hm⟩:∃ m,m=sep.length:=⟨_,rfl⟩;have hsz:(⟨sep.toArray⟩:ByteArray).size=m:=by rw [hm]; rfl
  have Hm:=hii hm;rw [← hm] at hsp h0;clear hm;obtain ⟨R,hR⟩:∃ R,R=joinT sep (s :: q):=⟨_,rfl⟩;rw [← hR];have HR:=hii hR;clear hR;go_enter Tryz.func20,Tryz.ntmps20;simp only [Nat.add_zero] at c0;obtain ⟨P,hP⟩:∃ P:Nat,(m:Int) * ((n:Int) - 1)=(P:Int):=⟨m * q.length,by rw [← hqn]; simp⟩;have hPl:P≤1000:=by
   have h1:(m:Int) * ((n:Int) - 1)≤10 * 99:=Int.mul_le_mul (by omega) (by omega) (by omega) (by omega);omega
  have hdiv:¬ (9223372036854775807 / ((n:Int) - 1)≤(m:Int)):=by
   have h1:((m:Int) + 1) * ((n:Int) - 1)≤11 * 99:=Int.mul_le_mul (by omega) (by omega) (by omega) (by omega);have h2:(m:Int) + 1≤9223372036854775807 / ((n:Int) - 1):=Int.le_ediv_of_mul_le (by omega) (by omega);omega
  have hn0:((n:Int) == 0)=false:=by rw [beq_eq_false_iff_ne]; omega
  have hn1:((n:Int) == 1)=false:=by rw [beq_eq_false_iff_ne]; omega
  have hm0:(0:Int) < (m:Int):=by omega
  go_wp2_with fail;clear hdiv hn0 hn1 hm0 hP;have HUw:=hii HU.out;have hb0:=Below.refl w.heap.size w;have Hl:Hid ((s :: q).length=n):=hii Hn.out.symm;go_loopw [5,41] (fun s5 c wr => ∃ k:Nat,k≤n∧c=.int .i64 k∧s5=.int .i64 ((P + sumL ((s :: q).take k):Nat):Int)∧Below w.heap.size w wr) (fun _ c _ => n - (intOf c).toNat)
  case atStart => exact ⟨0,Nat.zero_le _,rfl,rfl,hb0⟩
  case round =>
   clear hb0;obtain ⟨k,hk,rfl,rfl,hbr⟩:=hrel
   by_cases hlt:k < n
   ·obtain ⟨u,hu⟩:∃ u,(s :: q)[k]?=some u:=⟨(s :: q)[k]'(by rw [Hl.out]; exact hlt),gE _⟩;obtain ⟨_,_,e,cu⟩:=(HU.out.mono hbr) k u hu
    cases e
    have HT:=hii (sumL_take hu);have hle:sumL ((s :: q).take (k + 1))≤50000:=Nat.le_trans (sumL_le _ _) Hsum.out;obtain ⟨S,hS⟩:∃ S,S=P + sumL ((s :: q).take k):=⟨_,rfl⟩;obtain ⟨lu,hlu⟩:∃ lu,lu=u.length:=⟨_,rfl⟩;have hsu:(⟨u.toArray⟩:ByteArray).size=lu:=by rw [hlu]; rfl
    have hSl:S + lu≤51000:=by rw [HT.out] at hle; omega
    have HS:Hid (P + sumL ((s :: q).take (k + 1))=S + lu):=hii (by rw [HT.out,hS,hlu]; omega);rw [← hS];clear hu hle hS hlu HT;go_wp2_with fail;go_roundw
    case rel => exact ⟨k + 1,by omega,by go_num,by rw [HS.out]; go_num,hbr⟩
    case measure => simp [intOf]; omega
   ·obtain rfl:k=n:=by omega
    have e0:(s :: q).take k=s :: q:=by rw [← Hl.out]; exact List.take_length
    obtain ⟨S,hS⟩:∃ S,S=P + sumL ((s :: q).take k):=⟨_,rfl⟩;have hS5:S≤51000:=by rw [hS,e0]; have:=Hsum.out; omega
    rw [← hS];clear hS e0 hk hlt;have HU:=hii (HU.out.mono hbr);obtain ⟨wb,rfl⟩:∃ wb:World,wb=wr:=⟨_,rfl⟩;go_upto_region 19 with fail;have hba:=bA wb (.cells #[.pointer none,.slice none 0 0] 77);have hnew:(wb.alloc (.cells #[.pointer none,.slice none 0 0] 77)).heap[wb.heap.size]?=some (.cells #[.pointer none,.slice none 0 0] 77 (0,0)):=heap_alloc_new _ _;obtain ⟨B,hB⟩:∃ B,B=wb.heap.size:=⟨_,rfl⟩;rw [← hB] at hnew ⊢;have HB:=hii hB;generalize wb.alloc (.cells #[.pointer none,.slice none 0 0] 77)=w2 at *;have hBw:B≤w2.heap.size:=by rw [hB]; exact hba.size
    have hbB:Below B wb w2:=by rw [hB]; exact hba
    have hG:=Tryz.Builder_Grow_fresh B B S w2 nl hnew hBw (by omega);have HG:=hii hG;have HK:Hid (∀ W,Below B wb W→US W (some ⟨b,off,none⟩) (s :: q)∧B≤W.heap.size):=hii fun W h => by
     rw [HB.out] at h;exact ⟨HU.out.mono h,by rw [HB.out]; exact h.size⟩
    clear hB hba hG hnew;go_wp2_with fail;(with_reducible refine (HG.out).mono ?_);rintro e w3 ⟨rfl,hBA,hb3⟩;have hIB:Lib.IsBuilderF 77 5 B B (Lib.byteCells []) w3:=.inr (Lib.BuilderAtF.of hBA);have hbB:=hbB.trans hb3;clear HG hBA hb3 hBw;have h3:=HK.out w3 hbB;obtain ⟨_,_,e,cu⟩:=h3.1 0 s rfl
    cases e
    simp only [Nat.add_zero] at cu;have hBw:=h3.2;clear h3;have hsl:s.length≤50000:=by
     have:=Hsum.out;unfold sumL at this;rw [List.flatten_cons,List.length_append] at this;omega
    have hW:=write_any B [] s w3 hIB (by simp) (by omega) hBw;have HW:=hii hW;clear hW hIB;go_wp2_with fail;(with_reducible refine (HW.out).mono ?_);rintro e w4 ⟨rfl,hIB,hb4⟩;have hbB:=hbB.trans hb4;clear HW hb4 cu hsl hBw;obtain ⟨j,hj⟩:∃ j,j=q.length:=⟨_,rfl⟩;have hjk:(k:Int) - 1=(j:Int):=by omega
    have hjn:k - 1=j:=by omega
    have Hj:=hii hj;have hk1:(1:Int)≤(k:Int):=by omega
    have hk2:1≤k:=by omega
    clear hj;go_wp2_with fail;clear hjk hk1;have hIB:Lib.IsBuilderF 77 5 B B (Lib.byteCells (joinT sep (s :: q.take 0))) w4:=by
     have e:joinT sep (s :: q.take 0)=[] ++ s:=by simp [joinT]
     rw [e]; exact hIB
    go_loopw [65] (fun c wr => ∃ i:Nat,i≤j∧c=.int .i64 i∧Lib.IsBuilderF 77 5 B B (Lib.byteCells (joinT sep (s :: q.take i))) wr∧Below B wb wr) (fun c _ => j - (intOf c).toNat)
    case atStart => exact ⟨0,Nat.zero_le _,rfl,hIB,hbB⟩
    case round =>
     clear hIB hbB;obtain ⟨i,hi,rfl,hIB,hbB⟩:=hrel;have HLen:Hid (∀ i,(joinT sep (s :: q.take i)).length≤60000):=hii fun i => by
      have h1:=join_len sep (q.take i);have h2:=sumL_le q i;have h3:=Hsum.out;have h4:sep.length * (q.take i).length≤10 * 100:=Nat.mul_le_mul Hsp.out (by simp; have:=Hj.out; omega);simp only [joinT,sumL,List.flatten_cons,List.length_append] at *;omega
     by_cases hlt:i < j
     ·obtain ⟨u,hu⟩:∃ u,q[i]?=some u:=⟨q[i]'(by rw [← Hj.out]; exact hlt),gE _⟩;have h3:=HK.out wr hbB;obtain ⟨_,_,e,cu⟩:=h3.1 (i + 1) u (by simp [hu])
      cases e
      rw [show off + (i + 1)=off + 1 + i by omega] at cu;have hBw:=h3.2;have HJ:=hii (join_at (sep:=sep) (a:=s) hu);have hul:u.length≤50000:=by
       have h1:=sumL_take hu;have h2:=sumL_le q (i + 1);have h3:=Hsum.out;unfold sumL at h1 h2 h3;rw [List.flatten_cons,List.length_append] at h3;omega
      have HUl:=hii hul;clear h3 hu hul;have HW:=hii (write_any B _ sep wr hIB (by have:=HLen.out i; omega) (by have:=Hsp.out; omega) hBw);clear hIB;go_wp2_with fail;(with_reducible refine (HW.out).mono ?_);rintro e w5 ⟨rfl,hIB,hb5⟩;have hbB:=hbB.trans hb5;have hBw:=(HK.out w5 hbB).2;clear HW hb5 cu;have HW:=hii (write_any B _ u w5 hIB (by have:=HLen.out i; have:=Hsp.out; simp; omega) (by have:=HUl.out; omega) hBw);clear hIB;go_wp2_with fail;(with_reducible refine (HW.out).mono ?_);rintro e w6 ⟨rfl,hIB,hb6⟩;have hbB:=hbB.trans hb6;clear HW hb6;go_wp2;go_roundw
      case rel => exact ⟨i + 1,by omega,by go_num,by rw [HJ.out]; exact hIB,hbB⟩
      case measure => simp [intOf]; omega
     ·obtain rfl:i=j:=by omega
      have e0:q.take i=q:=by rw [Hj.out]; exact List.take_length
      rw [e0] at hIB;have hS:=Tryz.Builder_String_any_f B B (joinT sep (s :: q)) wr hIB (HK.out wr hbB).2;have HS:=hii hS;clear hS e0 hIB;go_wp2_with fail;(with_reducible refine (HS.out).mono ?_);rintro e w7 ⟨rfl,_,hb7⟩;have hbB:=hbB.trans hb7;rw [HB.out] at hbB;have hbw:=hbr.trans (hbB.mono hbr.size);clear HS hb7 hbB;go_wp2;go_ret;exact ⟨by rw [HR.out]; rfl,hbw⟩
theorem UQ.one {w:World} {g:Nat} {n1:Bool} {a1:Option Addr} {l1 c1:Nat} {n2:Bool} {a2:Option Addr} {l2 c2:Nat} {o:Option Rat} (B:Box4 w g (.bool n1) (.slice a1 l1 c1) (.bool n2) (.slice a2 l2 c2)) (h:QV w (.agg #[.bool n1,.slice a1 l1 c1,.bool n2,.slice a2 l2 c2]) o) :
  UQ w (some ⟨g,0,none⟩) [o]:=by
 intro i o' hi
 match i,hi with
 | 0,hi =>
  simp at hi; subst hi;exact ⟨g,0,n1,a1,l1,c1,n2,a2,l2,c2,rfl,⟨B.c0,B.c1,B.c2,B.c3,trivial,trivial,trivial,trivial⟩,h⟩
 | i + 1,hi => simp at hi
def textO:Qo→List UInt8
 | some r => Rq.textQ r
 | none => []
def txT (l:List Qo):List UInt8:=if badQ l then [] else joinT [32] (l.map textO)
def txE (l:List Qo):Nat:=if badQ l then 1 else 0
def fmE (v:Qo) (x y:List Qo):Nat:=if [[v],x,y].any badQ then 1 else 0
def fmT (v:Qo) (x y:List Qo):List UInt8:=if [[v],x,y].any badQ then [] else joinT [59,32] ([[v],x,y].map txT)
theorem RatV.sm {w:World} {v:Value} {r:Rat} (h:RatV w v r):Rq.Sm r.num∧Rq.Sm (r.den:Int):=by
 obtain ⟨n1,a1,l1,c1,n2,a2,l2,c2,e,h1,h2⟩:=h;exact ⟨h1.small,h2.small⟩
def ShortT (l:List Qo):Prop:=∀ o∈l,(textO o).length≤700
theorem UQ.short {w:World} {ao:Option Addr} {l:List Qo} (h:UQ w ao l):ShortT l:=by
 intro o ho;obtain ⟨i,hi⟩:=List.getElem?_of_mem ho;obtain ⟨_,_,_,_,_,_,_,_,_,_,_,_,hq⟩:=h i o hi
 cases o with
 | none => simp [textO]
 | some r =>
  have:=RatV.sm (hq:RatV _ _ r);exact Rq.textQ_len this.1 this.2
theorem ShortT.sum:∀ {l:List Qo},ShortT l→sumL (l.map textO)≤l.length * 700
 | [],_ => by simp [sumL]
 | o :: l,h => by
  have h1:=h o (by simp);have h2:=ShortT.sum (l:=l) fun x hx => h x (by simp [hx])
  simp only [sumL,List.map_cons,List.flatten_cons,List.length_append,List.length_cons] at *;omega
theorem joinT_len (sep:List UInt8) (l:List (List UInt8)):(joinT sep l).length≤sep.length * l.length + sumL l:=by
 cases l with
 | nil => simp [joinT]
 | cons a r =>
  have:=join_len sep r;simp only [joinT,sumL,List.flatten_cons,List.length_append,List.length_cons] at *;rw [Nat.mul_add]; omega
theorem txT_len {l:List Qo} (h:ShortT l):(txT l).length≤l.length * 701:=by
 unfold txT
 split
 ·simp
 ·have h1:=joinT_len [32] (l.map textO);have h2:=h.sum;simp only [List.length_cons,List.length_nil,List.length_map] at h1;omega
theorem badQ_snoc {l:List Qo} {k:Nat} {o:Qo} (h:l[k]?=some o) (ho:o.isNone=true):badQ l=true:=by
 unfold badQ; rw [List.any_eq_true]; exact ⟨o,List.mem_of_getElem? h,ho⟩
theorem map_take {l:List Qo} {k:Nat} {o:Qo} (h:l[k]?=some o):(l.take (k + 1)).map textO=(l.take k).map textO ++ [textO o]:=by
 rw [List.take_add_one,h]; simp
theorem dtexts_any (l:List Qo) (aa:Option Addr) (ca:Nat) (w:World) (hl:l.length≤50) (ua:UQ w aa l) (hE:Env w) :
  Calls Tryz.prog 19 #[.slice aa l.length ca] w fun e w' => e=.returned (.tuple #[.string ⟨(txT l).toArray⟩,.int .i64 (txE l)])∧Below w.heap.size w w':=by
 obtain ⟨T,hT⟩:∃ T,T=txT l:=⟨_,rfl⟩;obtain ⟨K,hK⟩:∃ K,K=txE l:=⟨_,rfl⟩;rw [← hT,← hK];have HT:=hii hT;have HK:=hii hK;clear hT hK;have hE0:=hE;have hbw:=Below.refl w.heap.size w;go_enter Tryz.func19,Tryz.ntmps19;go_wp2_with fail;go_loopw [4,11] (fun s c wr => ∃ k:Nat,k≤l.length∧c=.int .i64 k∧OwnT wr w.heap.size s ((l.take k).map textO)∧Hid (∀ x∈l.take k,x.isNone=false)∧Env wr∧Below w.heap.size w wr) (fun _ c _ => l.length - (intOf c).toNat)
 case atStart => exact ⟨0,Nat.zero_le _,rfl,OwnT.nil _ _,hii (by simp),hE,hbw⟩
 case round =>
  clear hE hbw;obtain ⟨k,hk,rfl,hown,HN,hE,hbw⟩:=hrel
  by_cases hlt:k < l.length
  ·obtain ⟨o,ho⟩:∃ x,l[k]?=some x:=⟨l[k],gE hlt⟩;obtain ⟨b1,off1,ngp,aop,np,capp,ngq,aoq,nq,capq,ea,FA,HVA⟩:=(ua.mono hbw) k o ho;have HM:=hii (map_take ho);have HTk:=hii (fun h => take_all ho HN.out h);have HO:=hii ho;clear ho ua;subst ea;obtain ⟨cFA_0,cFA_1,cFA_2,cFA_3,_,_,_,_⟩:=id FA;go_upto_region 5 with fail;have Y:=Box4.new wr (.bool ngp) (.slice aop np capp) (.bool ngq) (.slice aoq nq capq) 26;have hb:=bA wr (.cells #[.bool ngp,.slice aop np capp,.bool ngq,.slice aoq nq capq] 26);generalize wr.alloc (.cells #[.bool ngp,.slice aop np capp,.bool ngq,.slice aoq nq capq] 26)=wa at *;have HVA:=HVA.mono hb;have hE:=hE.mono hb;have hown:=hown.mono hb;have hbw:=bu hbw hb;clear hb cFA_0 cFA_1 cFA_2 cFA_3 FA;obtain ⟨d0,d1,d2,d3,_,_,_,_⟩:=id Y
   cases o with
   | none =>
    have HVA:VQ wa _ false:=HVA;go_wp2_with fail;(with_reducible refine (FormatQ_inv _ wa HVA hE).mono ?_);rintro e v2 ⟨rfl,hb⟩;have hbw:=bu hbw hb;clear hb d0 d1 d2 d3;have hbad:=badQ_snoc HO.out rfl;have HT1:Hid (T=[]):=hii (by rw [HT.out]; unfold txT; rw [hbad]; rfl);have HK1:Hid (K=1):=hii (by rw [HK.out]; unfold txE; rw [hbad]; rfl);clear hbad;go_wp2;go_ret2;exact ⟨by rw [HT1.out,HK1.out]; rfl,hbw⟩
   | some r =>
    have HVA:RatV wa _ r:=HVA;go_wp2_with fail;(with_reducible refine (FormatQ _ r wa HVA hE).mono ?_);rintro e v2 ⟨rfl,hb⟩;have hE:=hE.mono hb;have hown:=hown.mono hb;have hbw:=bu hbw hb;have hsz:=hbw.size;have hll:((l.take k).map textO).length≤1000000:=by simp; omega
    have HLL:=hii hll;clear hb d0 d1 d2 d3 hll;go_wp2_with (at_builtin; refine app_t _ rfl (.tmp 23) (.tmp 25) rfl w w.heap.size _ ((l.take k).map textO) (Rq.textQ r) rfl hown hsz hbw rfl HLL.out ?_; intro v3 w3 hown3 hbel3 hsz3);have hE:=hE0.mono hbel3;go_roundw
    case rel => exact ⟨k + 1,by omega,by go_num,by rw [HM.out]; exact hown3,hii (HTk.out rfl),hE,hbel3⟩
    case measure => simp [intOf]; omega
  ·obtain rfl:k=l.length:=by omega
   have HN:Hid (∀ x∈l,x.isNone=false):=hii fun x hx => HN.out x (by rw [List.take_length]; exact hx)
   rw [List.take_length] at hown;obtain ⟨ao,cap,rfl,hcap,hU⟩:=hown.read;rw [List.length_map] at hcap ⊢;have hbad:=badQ_of HN.out;have HT1:Hid (T=joinT [32] (l.map textO)):=hii (by rw [HT.out]; unfold txT; rw [hbad]; rfl);have HK1:Hid (K=0):=hii (by rw [HK.out]; unfold txE; rw [hbad]; rfl);have hJ:=Join_any (l.map textO) [32] ao cap wr (by simp; omega) (by simpa using hcap) (by simp) (by simp) (by have:=ua.short.sum; omega) hU;rw [List.length_map,← HT1.out] at hJ;have HJ:=hii hJ;clear hJ hbad hU hown;go_wp2_with fail;(with_reducible refine (HJ.out).mono ?_);rintro e v2 ⟨rfl,hb⟩;have hbw:=bu hbw hb;clear hb HJ;go_wp2;go_ret2;exact ⟨by rw [HK1.out]; rfl,hbw⟩
theorem any_at {l:List (List Qo)} {k:Nat} {o:List Qo} (h:l[k]?=some o) (ho:badQ o=true):l.any badQ=true:=by
 rw [List.any_eq_true]; exact ⟨o,List.mem_of_getElem? h,ho⟩
theorem any_no {l:List (List Qo)} (h:∀ x∈l,badQ x=false):l.any badQ=false:=by
 rw [List.any_eq_false]; intro x hx; rw [h x hx]; decide
theorem map_takeT {l:List (List Qo)} {k:Nat} {o:List Qo} (h:l[k]?=some o):(l.take (k + 1)).map txT=(l.take k).map txT ++ [txT o]:=by
 rw [List.take_add_one,h]; simp
theorem fmT_len {v:Qo} {x y:List Qo} (hv:ShortT [v]) (hx:ShortT x) (hy:ShortT y) (lx:x.length≤30) (ly:y.length≤30):sumL ([[v],x,y].map txT)≤50000∧(joinT [59,32] ([[v],x,y].map txT)).length≤60000:=by
 have h1:=txT_len hv;have h2:=txT_len hx;have h3:=txT_len hy;have h4:=joinT_len [59,32] ([[v],x,y].map txT);have h5:sumL ([[v],x,y].map txT)=(txT [v]).length + ((txT x).length + (txT y).length):=by simp [sumL]
 simp only [List.length_cons,List.length_nil,List.length_map] at *;omega
theorem dFormat_any (v:Qo) (x y:List Qo) (vo:Value) (w:World) (hx:x.length≤30) (hy:y.length≤30) (ho:OptV w vo v x y) (hE:Env w) :
  Calls Tryz.prog 6 #[vo] w fun e w' => e=.returned (.tuple #[.string ⟨(fmT v x y).toArray⟩,.int .i64 (fmE v x y)])∧Below w.heap.size w w':=by
 obtain ⟨T,hT⟩:∃ T,T=fmT v x y:=⟨_,rfl⟩;obtain ⟨K,hK⟩:∃ K,K=fmE v x y:=⟨_,rfl⟩;rw [← hT,← hK];have HT:=hii hT;have HK:=hii hK;clear hT hK;obtain ⟨ng,ao,n,cap,nh,ap,m,caq,ax,cx,ay,cy,rfl,hv,ux,uy⟩:=ho;have hE0:=hE;go_enter Tryz.func6,Tryz.ntmps6;go_upto_region 1 with fail;have hb:=bA w (.cells #[.bool ng,.slice ao n cap,.bool nh,.slice ap m caq,.slice ax x.length cx,.slice ay y.length cy] 30);have rO:Row (w.alloc (.cells #[.bool ng,.slice ao n cap,.bool nh,.slice ap m caq,.slice ax x.length cx,.slice ay y.length cy] 30)) w.heap.size 30 [.bool ng,.slice ao n cap,.bool nh,.slice ap m caq,.slice ax x.length cx,.slice ay y.length cy]:=heap_alloc_new _ _;obtain ⟨g,hg⟩:∃ g,g=w.heap.size:=⟨_,rfl⟩;rw [← hg] at rO ⊢;clear hg;generalize w.alloc (.cells #[.bool ng,.slice ao n cap,.bool nh,.slice ap m caq,.slice ax x.length cx,.slice ay y.length cy] 30)=w1 at *;have hv:=hv.mono hb;have ux:=ux.mono hb;have uy:=uy.mono hb;have hE:=hE.mono hb;have hbw:=hb;clear hb;have hb1:=bA w1 (.cells #[.bool ng,.slice ao n cap,.bool nh,.slice ap m caq] 26);obtain ⟨y0,y1,y2,y3,y4,y5⟩:=rO.n6;have z4:=(hb1.cell (p:=⟨g,4,none⟩) (cell_lt y4)).trans y4;have z5:=(hb1.cell (p:=⟨g,5,none⟩) (cell_lt y5)).trans y5;clear hb1;go_wp2_with fail;clear y0 y1 y2 y3 y4 y5 z4 z5;obtain ⟨wx,hwx,r1,r2,hb⟩:=two_rows w1 26 27 [.bool ng,.slice ao n cap,.bool nh,.slice ap m caq] [.slice (some ⟨w1.heap.size,0,none⟩) 1 1,.slice ax x.length cx,.slice ay y.length cy];simp only [List.toArray] at hwx;rw [← hwx];clear hwx;have uv:UQ wx (some ⟨w1.heap.size,0,none⟩) [v]:=UQ.one r1.box4 (hv.mono hb);have ux:=ux.mono hb;have uy:=uy.mono hb;have hE:=hE.mono hb;have hbw:=bu hbw hb;obtain ⟨g2,hg2⟩:∃ g2,g2=w1.heap.size + 1:=⟨_,rfl⟩;rw [← hg2] at r2 ⊢;clear hg2;obtain ⟨rows,hrows⟩:∃ rows,rows=[[v],x,y]:=⟨_,rfl⟩;have hrl:rows.length=3:=by rw [hrows]; rfl
 have uM:UM wx (some ⟨g2,0,none⟩) rows:=by
  rw [hrows];obtain ⟨z0,z1,z2⟩:=r2.n3;intro i row hi
  match i,hi with
  | 0,hi => simp at hi; subst hi; exact ⟨g2,0,_,_,rfl,z0,uv⟩
  | 1,hi => simp at hi; subst hi; exact ⟨g2,0,_,_,rfl,z1,ux⟩
  | 2,hi => simp at hi; subst hi; exact ⟨g2,0,_,_,rfl,z2,uy⟩
  | i + 3,hi => simp at hi
 have HL:Hid (∀ r∈rows,r.length≤50):=hii (by
  rw [hrows]; intro r hr;simp only [List.mem_cons,List.not_mem_nil,or_false] at hr;rcases hr with rfl | rfl | rfl
  ·simp
  ·omega
  ·omega)
 have HSm:=hii (fmT_len uv.short ux.short uy.short (by omega) (by omega));rw [← hrows] at HSm;have HT:Hid (T=if rows.any badQ then [] else joinT [59,32] (rows.map txT)):=hii (by rw [hrows]; exact HT.out);have HK:Hid (K=if rows.any badQ then 1 else 0):=hii (by rw [hrows]; exact HK.out);obtain ⟨w2,rfl⟩:∃ w2:World,w2=wx:=⟨_,rfl⟩;clear hrows uv ux uy hb r1 r2 rO hv;have hb0:=Below.refl w2.heap.size w2;have HRL:=hii hrl;clear hrl;go_loopw [4,19] (fun s c wr => ∃ k:Nat,k≤3∧c=.int .i64 k∧OwnT wr w2.heap.size s ((rows.take k).map txT)∧Hid (∀ x∈rows.take k,badQ x=false)∧Env wr∧Below w2.heap.size w2 wr) (fun _ c _ => 3 - (intOf c).toNat)
 case atStart => exact ⟨0,Nat.zero_le _,rfl,OwnT.nil _ _,hii (by simp),hE,hb0⟩
 case round =>
  clear hE hb0;obtain ⟨k,hk,rfl,hown,HN,hE,hbr⟩:=hrel
  by_cases hlt:k < 3
  ·obtain ⟨row,hrow⟩:∃ x,rows[k]?=some x:=⟨rows[k]'(by rw [HRL.out]; exact hlt),gE _⟩;obtain ⟨b0,off0,ar,cr,ea,hc,uR⟩:=(uM.mono hbr) k row hrow
   cases ea
   simp only [Nat.zero_add] at hc;have HM:=hii (map_takeT hrow);have HTk:=hii (fun h => take_all hrow HN.out h);have HO:=hii hrow;have hrl:=HL.out row (List.mem_of_getElem? hrow);obtain ⟨tt,htt⟩:∃ t,t=txT row:=⟨_,rfl⟩;obtain ⟨te,hte⟩:∃ t,t=txE row:=⟨_,rfl⟩;have hX:=dtexts_any row ar cr wr hrl uR hE;rw [← htt,← hte] at hX;have HX:=hii hX;have Htt:=hii htt;have Hte:=hii hte;clear hX htt hte hrow uR hrl;go_wp2_with fail;(with_reducible refine (HX.out).mono ?_);rintro e v2 ⟨rfl,hb⟩;have hE:=hE.mono hb;have hown:=hown.mono hb;have hbr:=bu hbr hb;clear hb HX
   cases hbd:badQ row with
   | true =>
    obtain rfl:te=1:=by rw [Hte.out]; unfold txE; rw [hbd]; rfl
    have hany:=any_at HO.out hbd;have HT1:Hid (T=[]):=hii (by rw [HT.out,hany]; rfl);have HK1:Hid (K=1):=hii (by rw [HK.out,hany]; rfl);have hbw:=bu hbw hbr;clear hbd hany hc;go_wp2;go_ret2;exact ⟨by rw [HT1.out,HK1.out]; rfl,hbw⟩
   | false =>
    obtain rfl:te=0:=by rw [Hte.out]; unfold txE; rw [hbd]; rfl
    have Hbd:=hii (HTk.out hbd);have hsz:=hbr.size;have hll:((rows.take k).map txT).length≤1000000:=by simp; omega
    have HLL:=hii hll;clear hbd hll hc;go_wp2_with (at_builtin; refine app_t _ rfl (.tmp 31) (.tmp 33) rfl w2 w2.heap.size _ ((rows.take k).map txT) tt rfl hown hsz hbr rfl HLL.out ?_; intro v3 w3 hown3 hbel3 hsz3);have hE:=(hE0.mono hbw).mono hbel3;go_roundw
    case rel => exact ⟨k + 1,by omega,by go_num,by rw [HM.out,← Htt.out]; exact hown3,Hbd,hE,hbel3⟩
    case measure => simp [intOf]; omega
  ·obtain rfl:k=3:=by omega
   have e0:rows.take 3=rows:=by rw [← HRL.out]; exact List.take_length
   rw [e0] at hown HN;obtain ⟨ao,cap,rfl,hcap,hU⟩:=hown.read;have hany:=any_no HN.out;have HT1:Hid (T=joinT [59,32] (rows.map txT)):=hii (by rw [HT.out,hany]; rfl);have HK1:Hid (K=0):=hii (by rw [HK.out,hany]; rfl);have HTl:T.length≤60000:=by rw [HT1.out]; exact HSm.out.2
   have hJ:=Join_any (rows.map txT) [59,32] ao cap wr (by simp; have:=HRL.out; omega) hcap (by simp) (by simp) (by have:=HSm.out.1; omega) hU;rw [← HT1.out] at hJ;have hml:(rows.map txT).length=3:=by rw [List.length_map,HRL.out]
   rw [hml] at hJ ⊢;have HJ:=hii hJ;have hbw:=bu hbw hbr;have hTs:(⟨T.toArray⟩:ByteArray).size=T.length:=rfl;obtain ⟨tl,htl⟩:∃ tl,tl=T.length:=⟨_,rfl⟩;rw [← htl] at hTs HTl;have g1:¬ (65536:Int) < (tl:Int):=by omega
   clear hJ hU hown hany e0 hml htl;go_wp2_with fail;(with_reducible refine (HJ.out).mono ?_);rintro e v2 ⟨rfl,hb⟩;have hbw:=bu hbw hb;clear hb HJ;go_wp2;go_ret2;exact ⟨by rw [HK1.out]; rfl,hbw⟩
def zq (l:List Int):List Qo:=l.map fun n:Int => some (n:Rat)
def zr (l:List Int):List Rat:=l.map fun n:Int => (n:Rat)
theorem vals_zq (l:List Int):valsQ (zq l)=zr l:=by
 unfold valsQ zq zr;rw [List.map_map]; rfl
theorem zq_map (l:List Int):zq l=(zr l).map some:=by
 unfold zq zr;rw [List.map_map]; rfl
theorem bad_zq (l:List Int):badQ (zq l)=false:=badQ_of fun x hx => by
 obtain ⟨n,_,rfl⟩:=List.mem_map.1 hx; rfl
theorem len_zq (l:List Int):(zq l).length=l.length:=by simp [zq]
theorem short_int {n:Int} (h:n.natAbs < 10):shortB (n:Rat)=true:=by
 unfold shortB;rw [Rat.num_intCast,Rat.den_intCast,Lib.decDigits_one h,Lib.decDigits_one (by decide)]
 rfl
theorem long_zq {l:List Int} (h:∀ n∈l,n.natAbs < 10):∀ x∈zq l,longO x=false:=by
 intro x hx;obtain ⟨n,hn,rfl⟩:=List.mem_map.1 hx;simp [longO,short_int (h n hn)]
theorem sx_int {n:Int} (h:n.natAbs≤100):Sx (n:Rat):=⟨by rw [Rat.num_intCast]; exact h,by rw [Rat.den_intCast]; decide⟩
theorem sx_zr {l:List Int} (h:∀ n∈l,n.natAbs≤100):∀ r∈zr l,Sx r:=by
 intro r hr;obtain ⟨n,hn,rfl⟩:=List.mem_map.1 hr;exact sx_int (h n hn)
theorem Sx.sh {r:Rat} (h:Sx r):Sh r:=⟨Nat.le_trans h.1 (by decide),Nat.le_trans h.2 (by decide)⟩
theorem Sx.kk {r:Rat} (h:Sx r):Rq.Bd r (KK ^ 5) (KK ^ 5):=by
 have hs:=kk_sh;have h1:KK≤KK ^ 5:=by have:=kk_le (i:=1) (j:=5) (by omega); rwa [Nat.pow_one] at this
 exact ⟨Nat.le_trans h.1 (by omega),Nat.le_trans h.2 (by omega)⟩
theorem agn_small {la lb:List Rat} {b:Rat} (hl:la.length≤5) (h1:∀ r∈la,Sx r) (h2:∀ r∈lb,Sx r) (h3:Sx b):agn la lb b=(0,Rq.cmpQ (Du.dotR la lb) b):=by
 obtain ⟨s,hs,hb⟩:=dot_small (fun r hr => (h1 r hr).sh) h2 hl;have e:=dotO_val hs;unfold agn;rw [hs];have:=cr_small hb h3.kk;simp only [if_pos this,e]
theorem dot_zr {la lb:List Int} (hl:la.length≤5) (h1:∀ n∈la,n.natAbs≤100) (h2:∀ n∈lb,n.natAbs≤100):∃ s,dotO (zr la) (zr lb)=some s∧Rq.Bd s (KK ^ 5) (KK ^ 5)∧s=Du.dotR (zr la) (zr lb):=by
 obtain ⟨s,hs,hb⟩:=dot_small (fun r hr => (sx_zr h1 r hr).sh) (sx_zr h2) (by simpa [zr] using hl);exact ⟨s,hs,hb,dotO_val hs⟩
theorem agn_zr {la lb:List Int} {b:Int} (hl:la.length≤5) (h1:∀ n∈la,n.natAbs≤100) (h2:∀ n∈lb,n.natAbs≤100) (h3:b.natAbs≤100):agn (zr la) (zr lb) (b:Rat)=(0,Rq.cmpQ (Du.dotR (zr la) (zr lb)) (b:Rat)) :=
 agn_small (by simpa [zr] using hl) (sx_zr h1) (sx_zr h2) (sx_int h3)
def dotZ:List Int→List Int→Int
 | a :: l,b :: m => a * b + dotZ l m
 | _,_ => 0
theorem dot_int:∀ (l m:List Int),Du.dotR (zr l) (zr m)=((dotZ l m:Int):Rat)
 | [],_ => by unfold zr; simp only [List.map_nil,Du.dotR,dotZ]; rfl
 | _ :: _,[] => by unfold zr; simp only [List.map_nil,List.map_cons,Du.dotR,dotZ]; rfl
 | a :: l,b :: m => by
  have:=dot_int l m;unfold zr at *;simp only [List.map_cons,Du.dotR,dotZ];rw [this,Rat.intCast_add,Rat.intCast_mul]
def sgnZ (x y:Int):Int:=if x < y then -1 else if y < x then 1 else 0
theorem cmp_int (x y:Int):Rq.cmpQ (x:Rat) (y:Rat)=sgnZ x y:=by
 unfold Rq.cmpQ sgnZ;simp only [Rat.intCast_lt_intCast]
theorem agn_int {la lb:List Int} {b:Int} (hl:la.length≤5) (h1:∀ n∈la,n.natAbs≤100) (h2:∀ n∈lb,n.natAbs≤100) (h3:b.natAbs≤100):agn (zr la) (zr lb) (b:Rat)=(0,sgnZ (dotZ la lb) b):=by
 rw [agn_zr hl h1 h2 h3,dot_int,cmp_int]
def zP (A:List (List Int)) (B C:List Int):Prg:=⟨A.map zq,zq B,zq C⟩
theorem zP_rA (A:List (List Int)) (B C:List Int):(zP A B C).rA=A.map zr:=by
 unfold Prg.rA zP;rw [List.map_map];exact List.map_congr_left fun r _ => vals_zq r
theorem zP_rB (A:List (List Int)) (B C:List Int):(zP A B C).rB=zr B:=vals_zq B
theorem zP_rC (A:List (List Int)) (B C:List Int):(zP A B C).rC=zr C:=vals_zq C
theorem zP_err {A:List (List Int)} {B C:List Int} (h1:0 < B.length∧B.length≤14∧0 < C.length∧C.length≤400∧A.length=B.length) (h2:∀ r∈A,r.length=C.length) (hA:∀ r∈A,∀ n∈r,n.natAbs < 10) (hB:∀ n∈B,n.natAbs < 10∧0≤n) (hC:∀ n∈C,n.natAbs < 10):(zP A B C).err=0:=by
 have hall:numErr (zP A B C).all=0:=by
  refine numErr_ok (fun x hx => ?_) (fun x hx => ?_)
  ·rcases List.mem_append.1 hx with hx | hx
   ·rcases List.mem_append.1 hx with hx | hx
    ·obtain ⟨l,hl,hx⟩:=List.mem_flatten.1 hx;obtain ⟨r,hr,rfl⟩:=List.mem_map.1 hl;obtain ⟨n,_,rfl⟩:=List.mem_map.1 hx; rfl
    ·obtain ⟨n,_,rfl⟩:=List.mem_map.1 hx; rfl
   ·obtain ⟨n,_,rfl⟩:=List.mem_map.1 hx; rfl
  ·rcases List.mem_append.1 hx with hx | hx
   ·rcases List.mem_append.1 hx with hx | hx
    ·obtain ⟨l,hl,hx⟩:=List.mem_flatten.1 hx;obtain ⟨r,hr,rfl⟩:=List.mem_map.1 hl;exact long_zq (hA r hr) x hx
    ·exact long_zq (fun n hn => (hB n hn).1) x hx
   ·exact long_zq hC x hx
 have hneg:negQ (zP A B C).B=false:=by
  unfold negQ;rw [List.any_eq_false];intro x hx;obtain ⟨n,hn,rfl⟩:=List.mem_map.1 hx
  show ¬ (decide ((n:Rat).num < 0)=true)
  rw [decide_eq_true_eq,Rat.num_intCast];have:=(hB n hn).2;omega
 rw [err_rest,hall,hneg]
 ·rfl
 ·simp only [zP,len_zq,List.length_map]; omega
 ·intro r hr;obtain ⟨l,hl,rfl⟩:=List.mem_map.1 hr;simp only [zP,len_zq]; exact h2 l hl
theorem any_negR {l:List Int} (h:∀ n∈l,0≤n):(zr l).any negR=false:=by
 rw [List.any_eq_false];intro x hx;obtain ⟨n,hn,rfl⟩:=List.mem_map.1 hx
 show ¬ (decide ((n:Rat).num < 0)=true)
 rw [decide_eq_true_eq,Rat.num_intCast];have:=h n hn;omega
def pA:Prg:=zP [[1,1],[1,0]] [4,3] [3,2]
def qA:Prg:=zP [[-1,1]] [0] [3,2]
theorem pA_err:pA.err=0:=zP_err (by decide) (by decide) (by decide) (by decide) (by decide)
theorem qA_err:qA.err=0:=zP_err (by decide) (by decide) (by decide) (by decide) (by decide)
theorem pA_sol:solErr pA.rA pA.rB (zr [3,1])=0:=by
 unfold solErr;rw [show ((zr [3,1]).any fun r => decide (r.num < 0))=false from any_negR (by decide),if_neg (by decide)]
 show rowsErr ((zP _ _ _).rA) ((zP _ _ _).rB) _=0
 rw [zP_rA,zP_rB]
 show rowsErr [zr [1,1],zr [1,0]] [((4:Int):Rat),((3:Int):Rat)] (zr [3,1])=0
 rw [rowsErr,agn_int (by decide) (by decide) (by decide) (by decide),rowsErr,agn_int (by decide) (by decide) (by decide) (by decide),rowsErr]
 all_goals first | decide | simp
theorem sgn_ge {x y:Int} (h:y≤x):¬ sgnZ x y < 0:=by
 unfold sgnZ
 split
 ·omega
 ·split <;> omega
theorem col0:colR [zr [1,1],zr [1,0]] 0=zr [1,1]:=rfl
theorem col1:colR [zr [1,1],zr [1,0]] 1=zr [1,0]:=rfl
theorem pA_pri {a b:Int} (ha:a.natAbs≤100) (hb:b.natAbs≤100) (h0:0≤a) (h1:0≤b) (h2:3≤a + b) (h3:2≤a):priErr pA.rA pA.rC (zr [a,b])=0:=by
 unfold priErr;have hab:∀ n∈[a,b],n.natAbs≤100:=by intro n hn; simp at hn; rcases hn with rfl | rfl <;> assumption
 rw [show ((zr [a,b]).any fun r => decide (r.num < 0))=false from any_negR (by intro n hn; simp at hn; rcases hn with rfl | rfl <;> assumption),if_neg (by decide)]
 show colsErr ((zP _ _ _).rA) _ 0 ((zP _ _ _).rC)=0
 rw [zP_rA,zP_rC]
 show colsErr [zr [1,1],zr [1,0]] (zr [a,b]) 0 [((3:Int):Rat),((2:Int):Rat)]=0
 rw [colsErr,col0,agn_int (by decide) (by decide) hab (by decide),colsErr,col1,agn_int (by decide) (by decide) hab (by decide),colsErr];have e0:dotZ [1,1] [a,b]=a + b:=by simp [dotZ]
 have e1:dotZ [1,0] [a,b]=a:=by simp [dotZ]
 rw [e0,e1];simp only;rw [if_neg (by simp),if_neg (sgn_ge h2),if_neg (by simp),if_neg (sgn_ge h3)]
theorem pA_chk {a b:Int} (ha:a.natAbs≤100) (hb:b.natAbs≤100) (h0:0≤a) (h1:0≤b) (h2:3≤a + b) (h3:2≤a):chkErr pA (zq [3,1]) (zq [a,b])=0:=by
 rw [chk_of (x:=zq [3,1]) (y:=zq [a,b]) pA_err rfl rfl (bad_zq _) (bad_zq _) (by rw [vals_zq]; exact pA_sol),vals_zq];exact pA_pri ha hb h0 h1 h2 h3
theorem pA_gap {a b:Int} (ha:a.natAbs≤100) (hb:b.natAbs≤100) (h0:0≤a) (h1:0≤b) (h2:3≤a + b) (h3:2≤a):gapR pA (zq [3,1]) (zq [a,b])=(0,((4 * a + 3 * b - 11:Int):Rat))∧dotO (valsQ pA.B) (valsQ (zq [a,b]))=some ((4 * a + 3 * b:Int):Rat):=by
 have hab:∀ n∈[a,b],n.natAbs≤100:=by intro n hn; simp at hn; rcases hn with rfl | rfl <;> assumption
 obtain ⟨s,hs,bs,es⟩:=dot_zr (la:=[3,2]) (lb:=[3,1]) (by decide) (by decide) (by decide);obtain ⟨t,ht,bt,et⟩:=dot_zr (la:=[4,3]) (lb:=[a,b]) (by decide) (by decide) hab;rw [dot_int] at es et;have e1:dotO (valsQ pA.C) (valsQ (zq [3,1]))=some s:=by rw [vals_zq]; show dotO (valsQ (zq _)) _=_; rw [vals_zq]; exact hs
 have e2:dotO (valsQ pA.B) (valsQ (zq [a,b]))=some t:=by rw [vals_zq]; show dotO (valsQ (zq _)) _=_; rw [vals_zq]; exact ht
 have e3:dotZ [4,3] [a,b]=4 * a + 3 * b:=by simp [dotZ]
 have e4:dotZ [3,2] [3,1]=11:=by decide
 rw [gap_ok (pA_chk ha hb h0 h1 h2 h3) e1 e2 (sub_small bt bs),e2,et,es,e3,e4];refine ⟨?_,rfl⟩;rw [Rat.intCast_sub]
theorem aw_opt:optB pA (zq [3,1]) (zq [2,1]) (some ((11:Int):Rat))=true:=by
 rw [opt_eq (K1:=0) (K2:=0) (c1:=0) (c2:=0) (pA_chk (by decide) (by decide) (by decide) (by decide) (by decide) (by decide))]
 ·rfl
 ·rw [vals_zq]; show agn (valsQ (zq _)) _ _=_; rw [vals_zq,agn_int (by decide) (by decide) (by decide) (by decide)]; decide
 ·rw [vals_zq]; show agn (valsQ (zq _)) _ _=_; rw [vals_zq,agn_int (by decide) (by decide) (by decide) (by decide)]; decide
open Classical in
theorem aw_slack:slackB pA (zq [3,1]) (zq [2,1])=true:=by
 have h:=(pA_gap (a:=2) (b:=1) (by decide) (by decide) (by decide) (by decide) (by decide) (by decide)).1;unfold slackB;refine decide_eq_true ((slack_gap (by rw [h])).2 (by rw [h]; decide))
theorem aw_gap:gapR pA (zq [3,1]) (zq [3,0])=(0,((1:Int):Rat)):=(pA_gap (a:=3) (b:=0) (by decide) (by decide) (by decide) (by decide) (by decide) (by decide)).1
theorem aw_bnd:bndR pA (zq [3,0])=(0,((12:Int):Rat)):=by
 have h:=(pA_gap (a:=3) (b:=0) (by decide) (by decide) (by decide) (by decide) (by decide) (by decide)).2;refine bnd_ok ?_ h;rw [chk_of (x:=zeros pA) (y:=zq [3,0]) pA_err (len_zeros _) rfl (bad_zeros _) (bad_zq _) (sol_zero pA_err),vals_zq];exact pA_pri (by decide) (by decide) (by decide) (by decide) (by decide) (by decide)
theorem aw_unb:unbB qA (zq [1,0])=true:=by
 refine unb_yes ⟨qA_err,rfl,bad_zq _,by rw [vals_zq]; exact any_negR (by decide),fun i hi => ?_,?_⟩
 ·have hi:i < 1:=hi;obtain rfl:i=0:=by omega
  rw [vals_zq]
  show (agn ((zP _ _ _).rA.getD 0 []) _ _).1=0∧(agn ((zP _ _ _).rA.getD 0 []) _ _).2≤0
  rw [zP_rA]
  show (agn (zr [-1,1]) _ ((0:Int):Rat)).1=0∧(agn (zr [-1,1]) _ ((0:Int):Rat)).2≤0
  rw [agn_int (by decide) (by decide) (by decide) (by decide)]
  decide
 ·rw [vals_zq]
  show (agn ((zP _ _ _).rC) _ _).1=0∧0 < (agn ((zP _ _ _).rC) _ _).2
  rw [zP_rC]
  show (agn (zr [3,2]) _ ((0:Int):Rat)).1=0∧0 < (agn (zr [3,2]) _ ((0:Int):Rat)).2
  rw [agn_int (by decide) (by decide) (by decide) (by decide)]
  decide
theorem aw_unb2:unbB pA (zq [1,0])=false:=by
 refine unb_no fun h => ?_
 have h:=h.2.2.2.2.1 0 (by decide);rw [vals_zq] at h;have h:(agn ((zP _ _ _).rA.getD 0 []) _ ((0:Int):Rat)).1=0∧(agn ((zP _ _ _).rA.getD 0 []) _ ((0:Int):Rat)).2≤0:=h;rw [zP_rA] at h;have h:(agn (zr [1,1]) _ ((0:Int):Rat)).1=0∧(agn (zr [1,1]) _ ((0:Int):Rat)).2≤0:=h;rw [agn_int (by decide) (by decide) (by decide) (by decide)] at h;exact absurd h (by decide)
theorem aw_itoa {n:Nat} (h:n < 10):Lib.itoa (n:Int)=[UInt8.ofNat (48 + n)]:=by rw [itoa_nat,Lib.decDigits_one h]
theorem itoa_11:Lib.itoa 11=[49,49]:=by
 have:Lib.itoa ((11:Nat):Int)=[49,49]:=by rw [itoa_nat,Lib.decDigits_two (by decide) (by decide)]; rfl
 exact this
theorem text_int (n:Int):textO (some (n:Rat))=Lib.itoa n:=by
 show Rq.textQ (n:Rat)=_
 rw [Rq.textQ_one (Rat.den_intCast n),Rat.num_intCast]
theorem tx_zq (l:List Int):txT (zq l)=joinT [32] (l.map Lib.itoa):=by
 unfold txT;rw [bad_zq,if_neg (by decide)]
 congr 1
 unfold zq;rw [List.map_map];exact List.map_congr_left fun n _ => text_int n
theorem aw_fmE:fmE (some ((11:Int):Rat)) (zq [3,1]) (zq [2,1])=0:=by
 unfold fmE;rw [any_no (l:=[[some ((11:Int):Rat)],zq [3,1],zq [2,1]]) (by
  intro x hx;simp only [List.mem_cons,List.not_mem_nil,or_false] at hx;rcases hx with rfl | rfl | rfl
  ·exact bad_zq [11]
  ·exact bad_zq _
  ·exact bad_zq _)]
 rfl
theorem aw_fmT:fmT (some ((11:Int):Rat)) (zq [3,1]) (zq [2,1])=[49,49,59,32,51,32,49,59,32,50,32,49]:=by
 unfold fmT;rw [any_no (l:=[[some ((11:Int):Rat)],zq [3,1],zq [2,1]]) (by
  intro x hx;simp only [List.mem_cons,List.not_mem_nil,or_false] at hx;rcases hx with rfl | rfl | rfl
  ·exact bad_zq [11]
  ·exact bad_zq _
  ·exact bad_zq _)]
 show joinT [59,32] [txT (zq [11]),txT (zq [3,1]),txT (zq [2,1])]=_
 rw [tx_zq,tx_zq,tx_zq];simp only [List.map_cons,List.map_nil];rw [itoa_11,show Lib.itoa 3=[51] from aw_itoa (n:=3) (by decide),show Lib.itoa 1=[49] from aw_itoa (n:=1) (by decide),show Lib.itoa 2=[50] from aw_itoa (n:=2) (by decide)]
 rfl
end Go.Proofs.YtaedmaifkfhpfaaGreatDoor
