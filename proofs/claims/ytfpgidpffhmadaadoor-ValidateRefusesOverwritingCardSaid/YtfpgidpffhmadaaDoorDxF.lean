/-
  All functions.
-/
import Derived.Test.YtfpgidpffhmadaaDoorDxF1
import Derived.Test.YtfpgidpffhmadaaDoorDxF2
import Derived.Test.YtfpgidpffhmadaaDoorDxF3
import Derived.Test.YtfpgidpffhmadaaDoorDxF4
import Derived.Test.YtfpgidpffhmadaaDoorDxF5
import Derived.Test.YtfpgidpffhmadaaDoorDxF6
