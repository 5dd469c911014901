/-
  All that is said plainly. No program in sight.
-/
import Derived.Test.YtajbjhcnppiloaaSp1
import Derived.Test.YtajbjhcnppiloaaSp2
import Derived.Test.YtajbjhcnppiloaaSp3
import Derived.Test.YtajbjhcnppiloaaSp4
import Derived.Test.YtajbjhcnppiloaaSp5
import Derived.Test.YtajbjhcnppiloaaSp6
import Derived.Test.YtajbjhcnppiloaaSp7
import Derived.Test.YtajbjhcnppiloaaSp8
import Derived.Test.YtajbjhcnppiloaaSp9
