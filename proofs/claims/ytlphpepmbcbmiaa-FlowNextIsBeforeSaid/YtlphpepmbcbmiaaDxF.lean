/-
  All functions.
-/
import Derived.Test.YtlphpepmbcbmiaaDxF1
import Derived.Test.YtlphpepmbcbmiaaDxF2
import Derived.Test.YtlphpepmbcbmiaaDxF3
