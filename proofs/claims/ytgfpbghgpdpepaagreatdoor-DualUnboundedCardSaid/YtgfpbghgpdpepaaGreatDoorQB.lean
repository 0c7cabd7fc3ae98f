import Derived.Test.YtgfpbghgpdpepaaGreatDoorQ5
import Derived.Test.YtgfpbghgpdpepaaGreatDoorQ9
import Derived.Test.YtgfpbghgpdpepaaGreatDoorQA
set_option linter.unusedVariables false
set_option linter.unusedSimpArgs false
set_option maxRecDepth 100000
set_option maxHeartbeats 25600000
namespace Go.Proofs.YtgfpbghgpdpepaaGreatDoor
open Go.RowKit
def GotR (w' : World) (r : Rat) (e : Ending) : Prop :=
 ∃ (n1 : Bool) (a1 : Option Addr) (l1 c1 : Nat) (n2 : Bool) (a2 : Option Addr) (l2 c2 : Nat), e = .returned (.agg #[.bool n1, .slice a1 l1 c1, .bool n2, .slice a2 l2 c2]) ∧
  Hid (IntV w' (.agg #[.bool n1, .slice a1 l1 c1]) r.num) ∧ Hid (IntV w' (.agg #[.bool n2, .slice a2 l2 c2]) (r.den : Int))
theorem zero_ok (w : World) (hE : Env w) :
  Calls Tryz.prog 63 #[] w fun e w' => GotR w' 0 e ∧ Below w.heap.size w w' := by
 have hbw := Below.refl w.heap.size w;go_enter Tryz.func63, Tryz.ntmps63;go_upto_region 1 with fail;have X0 := Box4.new w (.bool false) (.slice none 0 0) (.bool false) (.slice none 0 0) 34;have hb := bA w (.cells #[.bool false, .slice none 0 0, .bool false, .slice none 0 0] 34);generalize w.alloc (.cells #[.bool false, .slice none 0 0, .bool false, .slice none 0 0] 34) = v1 at *;have hE := hE.mono hb;have hbw := bu hbw hb;clear hb;go_wp2_with fail;(with_reducible refine (rof_any 1 (by decide) (by decide) v1 hE).mono ?_);rintro e v2 ⟨⟨ng1, ao1, n1, cap1, rfl, HV1⟩, hb⟩;have X0 := X0.mono hb;have hbw := bu hbw hb;clear hb;obtain ⟨x0a, x0b, x0c, x0d, _, _, _, _⟩ := id X0;go_wp2;refine bodyPost_ret (v := .agg #[.bool false, .slice none 0 0, .bool ng1, .slice ao1 n1 cap1]) (by simp [results, Tryz.results63, go_sem, x0a, x0b, x0c, x0d]) rfl ⟨⟨false, none, 0, 0, ng1, ao1, n1, cap1, rfl, hii ((IntV.zero _).put4B X0 (.bool false) (.slice none 0 0) (.bool ng1) (.slice ao1 n1 cap1)), hii (HV1.out.put4B X0 (.bool false) (.slice none 0 0) (.bool ng1) (.slice ao1 n1 cap1))⟩, Below.put4 hbw (by omega) (.bool false) (.slice none 0 0) (.bool ng1) (.slice ao1 n1 cap1)⟩
theorem d1 {n : Nat} (h : n < 10) : Lib.decDigits n = [UInt8.ofNat (48 + n)] := Lib.decDigits_one h
end Go.Proofs.YtgfpbghgpdpepaaGreatDoor
