/- Contract of the reference's Decide; Great; spans; the texts. -/
import Derived.Test.YtdomakklbcpnjaaDoorF3
namespace Go.Proofs.YtdomakklbcpnjaaDoor
open Go.RowKit

end Go.Proofs.YtdomakklbcpnjaaDoor
