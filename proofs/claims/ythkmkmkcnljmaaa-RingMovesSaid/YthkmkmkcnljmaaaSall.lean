/-
  All that is said plainly. No program in sight.
-/
import Derived.Test.YthkmkmkcnljmaaaSp1
import Derived.Test.YthkmkmkcnljmaaaSp2
import Derived.Test.YthkmkmkcnljmaaaSp3
import Derived.Test.YthkmkmkcnljmaaaSp4
import Derived.Test.YthkmkmkcnljmaaaSp5
import Derived.Test.YthkmkmkcnljmaaaSp6
import Derived.Test.YthkmkmkcnljmaaaSp7
import Derived.Test.YthkmkmkcnljmaaaSp8
import Derived.Test.YthkmkmkcnljmaaaSp9
import Derived.Test.YthkmkmkcnljmaaaSp10
import Derived.Test.YthkmkmkcnljmaaaSp11
import Derived.Test.YthkmkmkcnljmaaaSp12
import Derived.Test.YthkmkmkcnljmaaaSp13
import Derived.Test.YthkmkmkcnljmaaaSp14
import Derived.Test.YthkmkmkcnljmaaaSp15
