/- Lemmas for laws of the ledger. -/
import Derived.Test.YtbgehdndimlgkaaGreatR40
set_option linter.all false
namespace Go.Proofs.YtbgehdndimlgkaaGreat
open Go Go.RowKit Go.Av
set_option maxRecDepth 100000
end Go.Proofs.YtbgehdndimlgkaaGreat
