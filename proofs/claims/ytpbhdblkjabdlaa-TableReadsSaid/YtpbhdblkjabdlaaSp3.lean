import Derived.Test.YtpbhdblkjabdlaaSp2
namespace Go.Proofs.Ytpbhdblkjabdlaa
set_option linter.unusedVariables false
end Go.Proofs.Ytpbhdblkjabdlaa
