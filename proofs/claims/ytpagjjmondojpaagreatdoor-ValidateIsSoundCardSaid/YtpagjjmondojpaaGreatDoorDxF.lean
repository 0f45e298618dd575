/-
  All functions.
-/
import Derived.Test.YtpagjjmondojpaaGreatDoorDxF1
import Derived.Test.YtpagjjmondojpaaGreatDoorDxF2
import Derived.Test.YtpagjjmondojpaaGreatDoorDxF3
import Derived.Test.YtpagjjmondojpaaGreatDoorDxF4
import Derived.Test.YtpagjjmondojpaaGreatDoorDxF5
import Derived.Test.YtpagjjmondojpaaGreatDoorDxF6
import Derived.Test.YtpagjjmondojpaaGreatDoorDxF7
