import Derived.Test.YtpbhdblkjabdlaaWp2
import Derived.Test.YtpbhdblkjabdlaaSp3
namespace Go.Proofs.Ytpbhdblkjabdlaa
open Go.RowKit
set_option linter.unusedVariables false
set_option maxRecDepth 10000
end Go.Proofs.Ytpbhdblkjabdlaa
