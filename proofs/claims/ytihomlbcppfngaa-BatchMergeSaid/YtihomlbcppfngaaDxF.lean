/-
  All functions.
-/
import Derived.Test.YtihomlbcppfngaaDxF1
