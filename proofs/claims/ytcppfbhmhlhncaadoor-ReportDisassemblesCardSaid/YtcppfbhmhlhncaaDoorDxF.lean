/-
  All functions.
-/
import Derived.Test.YtcppfbhmhlhncaaDoorDxF1
import Derived.Test.YtcppfbhmhlhncaaDoorDxF2
import Derived.Test.YtcppfbhmhlhncaaDoorDxF3
import Derived.Test.YtcppfbhmhlhncaaDoorDxF4
