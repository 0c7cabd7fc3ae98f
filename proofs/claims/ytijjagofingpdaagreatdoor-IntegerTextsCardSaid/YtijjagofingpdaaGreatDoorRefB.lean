import Derived.Test.YtijjagofingpdaaGreatDoorRefA
namespace Go.Proofs.YtijjagofingpdaaGreatDoor
open Go.RowKit

end Go.Proofs.YtijjagofingpdaaGreatDoor
