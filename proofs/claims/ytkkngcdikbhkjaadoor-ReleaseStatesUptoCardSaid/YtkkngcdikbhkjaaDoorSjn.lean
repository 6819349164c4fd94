/- Stub: the contract lies in Shelf. -/
import Derived.Test.YtkkngcdikbhkjaaDoorShelf
import Derived.Shelf.Strings.OnBuilder
