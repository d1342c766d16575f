/- Contract of the reference's Decide; Great; spans; the texts. -/
import Derived.Test.YtfpfdgljhcpkpaaDoorF3
namespace Go.Proofs.YtfpfdgljhcpkpaaDoor
open Go.RowKit

end Go.Proofs.YtfpfdgljhcpkpaaDoor
