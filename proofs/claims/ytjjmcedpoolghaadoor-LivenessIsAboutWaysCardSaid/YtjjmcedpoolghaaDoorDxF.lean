/-
  All functions.
-/
import Derived.Test.YtjjmcedpoolghaaDoorDxF1
import Derived.Test.YtjjmcedpoolghaaDoorDxF2
import Derived.Test.YtjjmcedpoolghaaDoorDxF3
import Derived.Test.YtjjmcedpoolghaaDoorDxF4
import Derived.Test.YtjjmcedpoolghaaDoorDxF5
