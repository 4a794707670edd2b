/- Walks of the laws' helpers on views: copies and comparisons. -/
import Derived.Test.YtjpngmdfnglabaaCopy
namespace Go.Proofs.Ytjpngmdfnglabaa
open Go.RowKit
set_option linter.unusedVariables false
set_option maxRecDepth 100000

end Go.Proofs.Ytjpngmdfnglabaa
