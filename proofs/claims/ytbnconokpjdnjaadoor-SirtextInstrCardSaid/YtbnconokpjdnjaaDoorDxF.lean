/-
  All functions.
-/
import Derived.Test.YtbnconokpjdnjaaDoorDxF1
