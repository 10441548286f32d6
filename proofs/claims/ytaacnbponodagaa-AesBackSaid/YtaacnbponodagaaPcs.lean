/- the reference's Pieces. -/
import Derived.Test.YtaacnbponodagaaBB
namespace Go.Proofs.Ytaacnbponodagaa
open Go.RowKit

end Go.Proofs.Ytaacnbponodagaa
