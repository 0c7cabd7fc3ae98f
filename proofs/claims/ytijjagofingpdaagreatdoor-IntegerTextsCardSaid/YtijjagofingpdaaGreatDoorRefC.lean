import Derived.Test.YtijjagofingpdaaGreatDoorRefB
import Derived.RegionTactic
import Derived.BigRegion
namespace Go.Proofs.YtijjagofingpdaaGreatDoor
open Go.RowKit

end Go.Proofs.YtijjagofingpdaaGreatDoor
