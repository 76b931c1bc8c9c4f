/- Bodies of the document's answer; printed. No condition. -/
import Derived.Test.YtbdibjgoeeokoaaGl
set_option maxRecDepth 100000
namespace Go.Proofs.Ytbdibjgoeeokoaa
open Go.Ab
end Go.Proofs.Ytbdibjgoeeokoaa
