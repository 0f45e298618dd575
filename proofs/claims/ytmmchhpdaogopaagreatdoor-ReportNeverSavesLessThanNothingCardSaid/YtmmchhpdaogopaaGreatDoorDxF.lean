/-
  All functions.
-/
import Derived.Test.YtmmchhpdaogopaaGreatDoorDxF20
