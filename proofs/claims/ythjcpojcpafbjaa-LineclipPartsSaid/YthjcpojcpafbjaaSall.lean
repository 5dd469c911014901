/-
  All that is said plainly. No program in sight.
-/
import Derived.Test.YthjcpojcpafbjaaSp1
import Derived.Test.YthjcpojcpafbjaaSp2
import Derived.Test.YthjcpojcpafbjaaSp3
import Derived.Test.YthjcpojcpafbjaaSp4
import Derived.Test.YthjcpojcpafbjaaSp5
import Derived.Test.YthjcpojcpafbjaaSp6
import Derived.Test.YthjcpojcpafbjaaSp7
import Derived.Test.YthjcpojcpafbjaaSp8
import Derived.Test.YthjcpojcpafbjaaSp9
import Derived.Test.YthjcpojcpafbjaaSp10
import Derived.Test.YthjcpojcpafbjaaSp11
import Derived.Test.YthjcpojcpafbjaaSp12
import Derived.Test.YthjcpojcpafbjaaSp13
