/- A part of the proof. -/
import Derived.Test.YtaepkcjcmejfcaaSlT
import Derived.Test.YtaepkcjcmejfcaaSlL0
set_option linter.unusedVariables false
set_option linter.unusedSimpArgs false
set_option linter.unnecessarySimpa false
namespace Go.Proofs.Sl
end Go.Proofs.Sl

