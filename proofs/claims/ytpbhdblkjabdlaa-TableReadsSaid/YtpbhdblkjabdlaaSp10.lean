import Derived.Test.YtpbhdblkjabdlaaSp2
import Derived.Test.YtpbhdblkjabdlaaSp3
import Derived.Test.YtpbhdblkjabdlaaSp4
namespace Go.Proofs.Ytpbhdblkjabdlaa
set_option linter.unusedVariables false
end Go.Proofs.Ytpbhdblkjabdlaa
