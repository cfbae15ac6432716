/- Small laws on strings told as lists of bytes, on rows that a call owns, and on worlds; nothing of the program's own but the numbers of its types. -/
import Derived.Test.YtbnkaecmgfolpaaGreatHb1
set_option maxRecDepth 100000
namespace Go.Proofs.YtbnkaecmgfolpaaGreat
open Go.RowKit
theorem wU (s:ByteArray):s=ByteArray.mk s.data.toList.toArray:=by simp
end Go.Proofs.YtbnkaecmgfolpaaGreat
