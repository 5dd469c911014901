import Derived.Test.YtaobbaohelpdgaaPre
import GoSem.Op.String
import GoSem.Core.Utf8
namespace Go.Proofs.Ytaobbaohelpdgaa
end Go.Proofs.Ytaobbaohelpdgaa
