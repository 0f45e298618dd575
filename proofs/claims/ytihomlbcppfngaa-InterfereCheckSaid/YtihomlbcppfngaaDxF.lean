/-
  All functions.
-/
import Derived.Test.YtihomlbcppfngaaDxF1
import Derived.Test.YtihomlbcppfngaaDxF2
