/-
  All functions.
-/
import Derived.Test.YtbnconokpjdnjaaDoorDxF1
import Derived.Test.YtbnconokpjdnjaaDoorDxF2
