/-
  All rules. No program in sight.
-/
import Derived.Test.YtoccfdohlefifaaMrow
