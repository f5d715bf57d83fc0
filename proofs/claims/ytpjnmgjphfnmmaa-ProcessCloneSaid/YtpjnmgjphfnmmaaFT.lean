import Derived.Test.YtpjnmgjphfnmmaaFWh
set_option linter.unusedVariables false
set_option linter.unusedSimpArgs false
set_option linter.defProp false
namespace Go.Proofs.Ytpjnmgjphfnmmaa
open Go Go.AM
set_option maxRecDepth 100000
end Go.Proofs.Ytpjnmgjphfnmmaa
