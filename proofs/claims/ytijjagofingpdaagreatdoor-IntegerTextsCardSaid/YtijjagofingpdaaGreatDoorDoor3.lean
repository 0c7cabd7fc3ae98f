import Derived.Test.YtijjagofingpdaaGreatDoorDoor2
namespace Go.Proofs.YtijjagofingpdaaGreatDoor
open Go.RowKit

theorem Cmp_eq (a b : Value) (x y c : Int) (w : World) (hc : Hid (cmpZ x y = c)) (ha : IntV w a x) (hb : IntV w b y) (hE : Env w) :
    Calls Tryz.prog 34 #[a, b] w fun e w' => e = .returned (.int .i64 c) ∧ Below w.heap.size w w' := by
  rw [← hc.out]; exact Cmp_any a b x y w ha hb hE

theorem rCmp_eq (a b : Value) (x y c : Int) (w : World) (hc : Hid (cmpZ x y = c)) (ha : IntV w a x) (hb : IntV w b y) :
    Calls Tryz.prog 35 #[a, b] w fun e w' => e = .returned (.int .i64 c) ∧ Below w.heap.size w w' := by
  rw [← hc.out]; exact rCmp_any a b x y w ha hb

end Go.Proofs.YtijjagofingpdaaGreatDoor
