/-
  The contract of strings.Join lies in Shelf at this seat.
-/
import Derived.Test.YtpmlgnbbkpplhaaGreatDoorShelf
import Derived.Shelf.Strings.OnBuilder
