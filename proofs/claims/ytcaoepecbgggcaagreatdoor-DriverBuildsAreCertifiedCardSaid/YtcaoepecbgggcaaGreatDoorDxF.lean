/-
  All functions.
-/
import Derived.Test.YtcaoepecbgggcaaGreatDoorDxF23
