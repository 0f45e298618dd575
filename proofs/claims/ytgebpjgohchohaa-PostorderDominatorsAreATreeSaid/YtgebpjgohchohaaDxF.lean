/-
  All functions.
-/
import Derived.Test.YtgebpjgohchohaaDxF1
import Derived.Test.YtgebpjgohchohaaDxF2
import Derived.Test.YtgebpjgohchohaaDxF3
