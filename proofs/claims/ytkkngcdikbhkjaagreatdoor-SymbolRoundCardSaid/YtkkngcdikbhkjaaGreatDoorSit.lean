/- Stub: the contract lies in Shelf. -/
import Derived.Test.YtkkngcdikbhkjaaGreatDoorShelf
import Derived.Shelf.Strconv.Itoa3
