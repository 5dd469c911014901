import Derived.Test.YtopnbammdeimcaaPre
import GoSem.Op.String
import GoSem.Core.Utf8
namespace Go.Proofs.Ytopnbammdeimcaa
end Go.Proofs.Ytopnbammdeimcaa
