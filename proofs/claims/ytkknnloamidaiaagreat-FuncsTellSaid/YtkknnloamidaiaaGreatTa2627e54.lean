import Derived.Test.YtkknnloamidaiaaGreatT4f13d118
namespace Go.Proofs.YtkknnloamidaiaaGreat.VI
set_option linter.unusedVariables false
set_option linter.unusedSimpArgs false
set_option maxRecDepth 100000
set_option linter.unusedSimpArgs false
set_option linter.unusedVariables false
end Go.Proofs.YtkknnloamidaiaaGreat.VI

namespace Go.Proofs.YtkknnloamidaiaaGreat.VI
set_option linter.unusedVariables false
set_option linter.unusedSimpArgs false
set_option maxRecDepth 100000
set_option linter.unusedSimpArgs false
set_option linter.unusedVariables false
end Go.Proofs.YtkknnloamidaiaaGreat.VI
