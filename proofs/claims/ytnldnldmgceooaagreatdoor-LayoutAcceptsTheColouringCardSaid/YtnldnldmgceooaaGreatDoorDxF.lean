/-
  All functions.
-/
import Derived.Test.YtnldnldmgceooaaGreatDoorDxF1
import Derived.Test.YtnldnldmgceooaaGreatDoorDxF2
import Derived.Test.YtnldnldmgceooaaGreatDoorDxF3
import Derived.Test.YtnldnldmgceooaaGreatDoorDxF4
import Derived.Test.YtnldnldmgceooaaGreatDoorDxF5
