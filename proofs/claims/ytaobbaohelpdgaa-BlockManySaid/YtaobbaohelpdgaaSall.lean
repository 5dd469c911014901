/-
  All that is said plainly. No program in sight.
-/
import Derived.Test.YtaobbaohelpdgaaSp1
import Derived.Test.YtaobbaohelpdgaaSp2
import Derived.Test.YtaobbaohelpdgaaSp3
