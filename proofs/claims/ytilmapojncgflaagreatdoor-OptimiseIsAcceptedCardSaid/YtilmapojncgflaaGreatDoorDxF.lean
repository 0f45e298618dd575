/-
  All functions.
-/
import Derived.Test.YtilmapojncgflaaGreatDoorDxF1
import Derived.Test.YtilmapojncgflaaGreatDoorDxF2
import Derived.Test.YtilmapojncgflaaGreatDoorDxF3
import Derived.Test.YtilmapojncgflaaGreatDoorDxF4
import Derived.Test.YtilmapojncgflaaGreatDoorDxF5
import Derived.Test.YtilmapojncgflaaGreatDoorDxF6
import Derived.Test.YtilmapojncgflaaGreatDoorDxF7
import Derived.Test.YtilmapojncgflaaGreatDoorDxF8
