/-
  All functions.
-/
import Derived.Test.YtihomlbcppfngaaDxF1
import Derived.Test.YtihomlbcppfngaaDxF2
import Derived.Test.YtihomlbcppfngaaDxF3
import Derived.Test.YtihomlbcppfngaaDxF4
