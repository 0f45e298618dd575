/-
  All functions.
-/
import Derived.Test.YtcaoepecbgggcaaGreatDoorDxF27
