/-
  All that is said plainly. No program in sight.
-/
import Derived.Test.YthbjlgklmamhjaaSp1
import Derived.Test.YthbjlgklmamhjaaSp2
import Derived.Test.YthbjlgklmamhjaaSp3
import Derived.Test.YthbjlgklmamhjaaSp4
import Derived.Test.YthbjlgklmamhjaaSp5
import Derived.Test.YthbjlgklmamhjaaSp6
import Derived.Test.YthbjlgklmamhjaaSp7
import Derived.Test.YthbjlgklmamhjaaSp8
import Derived.Test.YthbjlgklmamhjaaSp9
import Derived.Test.YthbjlgklmamhjaaSp10
import Derived.Test.YthbjlgklmamhjaaSp11
import Derived.Test.YthbjlgklmamhjaaSp12
import Derived.Test.YthbjlgklmamhjaaSp13
