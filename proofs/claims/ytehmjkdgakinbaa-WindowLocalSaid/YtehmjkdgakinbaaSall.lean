/-
  All that is said plainly. No program in sight.
-/
import Derived.Test.YtehmjkdgakinbaaSp1
import Derived.Test.YtehmjkdgakinbaaSp2
import Derived.Test.YtehmjkdgakinbaaSp3
import Derived.Test.YtehmjkdgakinbaaSp4
import Derived.Test.YtehmjkdgakinbaaSp5
import Derived.Test.YtehmjkdgakinbaaSp6
import Derived.Test.YtehmjkdgakinbaaSp7
import Derived.Test.YtehmjkdgakinbaaSp8
import Derived.Test.YtehmjkdgakinbaaSp9
import Derived.Test.YtehmjkdgakinbaaSp10
import Derived.Test.YtehmjkdgakinbaaSp11
