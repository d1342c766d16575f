/- Contract of the reference's Of for states. -/
import Derived.Test.YtdomakklbcpnjaaDoorF0
namespace Go.Proofs.YtdomakklbcpnjaaDoor
open Go.RowKit

end Go.Proofs.YtdomakklbcpnjaaDoor
