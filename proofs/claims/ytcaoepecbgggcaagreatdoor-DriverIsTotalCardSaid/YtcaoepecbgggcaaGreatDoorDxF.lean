/-
  All functions.
-/
import Derived.Test.YtcaoepecbgggcaaGreatDoorDxF10
