/-
  The contract of strconv.Itoa lies in Shelf at this seat.
-/
import Derived.Test.YtpmlgnbbkpplhaaGreatDoorShelf
import Derived.Shelf.Strconv.Itoa3
