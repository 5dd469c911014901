import Derived.Test.YtpbhdblkjabdlaaSp8
namespace Go.Proofs.Ytpbhdblkjabdlaa
set_option linter.unusedVariables false
end Go.Proofs.Ytpbhdblkjabdlaa
