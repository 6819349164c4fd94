/- Stub: the contract lies in Shelf. -/
import Derived.Test.YtgbldojgbpgjbaaGreatDoorShelf
import Derived.Shelf.Strings.OnBuilder
