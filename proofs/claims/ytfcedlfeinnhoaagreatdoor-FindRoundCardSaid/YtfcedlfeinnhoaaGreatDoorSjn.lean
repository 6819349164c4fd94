/- Stub: the contract lies in Shelf. -/
import Derived.Test.YtfcedlfeinnhoaaGreatDoorShelf
import Derived.Shelf.Strings.OnBuilder
