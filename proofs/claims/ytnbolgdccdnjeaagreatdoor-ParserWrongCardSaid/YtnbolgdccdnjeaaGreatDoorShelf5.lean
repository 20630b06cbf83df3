/- Contracts of Go's library at this program, as the kit's tools lay-shelf and lay-plain wrote them; what is not used is left out. -/
import Derived.Test.YtnbolgdccdnjeaaGreatDoorShelf
import Derived.Shelf.Strings.Builder1
import Derived.Shelf.Utf8.RuneCount
import Derived.Shelf.Strconv.Itoa0
import Derived.Shelf.Strconv.Itoa1
import Derived.Shelf.LaysM
import Derived.Shelf.Strconv.Itoa2
import Derived.Shelf.Strconv.Itoa3
import Derived.Shelf.Strings.Search1
import Derived.Shelf.Strings.Search2
import Derived.Shelf.Strings.Search3
import Derived.Shelf.Strings.Count
import Derived.Shelf.Strings.Prefix
import Derived.Shelf.Strings.RuneCount
namespace Go.Proofs
open Go.Shelf
end Go.Proofs

