/-
  All functions.
-/
import Derived.Test.YtfpgidpffhmadaaGreatDoorDxF1
import Derived.Test.YtfpgidpffhmadaaGreatDoorDxF2
import Derived.Test.YtfpgidpffhmadaaGreatDoorDxF3
import Derived.Test.YtfpgidpffhmadaaGreatDoorDxF4
import Derived.Test.YtfpgidpffhmadaaGreatDoorDxF5
import Derived.Test.YtfpgidpffhmadaaGreatDoorDxF6
import Derived.Test.YtfpgidpffhmadaaGreatDoorDxF7
