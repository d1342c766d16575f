/- Contract of the reference's Of for states. -/
import Derived.Test.YtfpfdgljhcpkpaaDoorF0
namespace Go.Proofs.YtfpfdgljhcpkpaaDoor
open Go.RowKit

end Go.Proofs.YtfpfdgljhcpkpaaDoor
