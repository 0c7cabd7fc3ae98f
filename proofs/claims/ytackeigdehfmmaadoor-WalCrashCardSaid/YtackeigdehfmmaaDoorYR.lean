import Derived.Test.YtackeigdehfmmaaDoorYQ
namespace Go.Proofs.YtackeigdehfmmaaDoor
open Go.RowKit

/-- 'WalCrash' answers true -/
theorem crash_law (z : Nat) (l : List OpD) (bits : List Nat) (a ab : Option Addr) (c cb : Nat) (w : World) (hz : z < 256) (hl : OpsR w a l) (hll : l.length ≤ 9223372036854775807) (hbr : RG w (fun _ => False) ab (uvs bits)) (hE : Env w) :
    Calls Tryd.prog 5 #[.int .u8 z, .slice a l.length c, .slice ab bits.length cb] w fun e w' => e = .returned (.bool true) ∧ Below w.heap.size w w' := by
  by_cases hf : FewP l
  · by_cases h20 : bits.length ≤ 20
    · exact crash_main z l bits a ab c cb w hz hl hbr (Lib.hid hf) h20 hE
    · exact crash_bits z l bits a ab c cb w hz hl hll (Lib.hid hf) (by omega) hE
  · exact crash_many z l bits a ab c cb w hz hl hll (Lib.hid hf) hE

end Go.Proofs.YtackeigdehfmmaaDoor
