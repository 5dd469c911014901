/-
  All that is said plainly. No program in sight.
-/
import Derived.Test.YtoccfdohlefifaaSp1
import Derived.Test.YtoccfdohlefifaaSp2
import Derived.Test.YtoccfdohlefifaaSp3
import Derived.Test.YtoccfdohlefifaaSp4
import Derived.Test.YtoccfdohlefifaaSp5
import Derived.Test.YtoccfdohlefifaaSp6
import Derived.Test.YtoccfdohlefifaaSp7
import Derived.Test.YtoccfdohlefifaaSp8
import Derived.Test.YtoccfdohlefifaaSp9
import Derived.Test.YtoccfdohlefifaaSp10
import Derived.Test.YtoccfdohlefifaaSp11
import Derived.Test.YtoccfdohlefifaaSp12
