/-
  All that is said plainly. No program in sight.
-/
import Derived.Test.YtopnbammdeimcaaSp1
import Derived.Test.YtopnbammdeimcaaSp2
import Derived.Test.YtopnbammdeimcaaSp3
import Derived.Test.YtopnbammdeimcaaSp4
import Derived.Test.YtopnbammdeimcaaSp5
import Derived.Test.YtopnbammdeimcaaSp6
import Derived.Test.YtopnbammdeimcaaSp7
import Derived.Test.YtopnbammdeimcaaSp8
import Derived.Test.YtopnbammdeimcaaSp9
import Derived.Test.YtopnbammdeimcaaSp10
