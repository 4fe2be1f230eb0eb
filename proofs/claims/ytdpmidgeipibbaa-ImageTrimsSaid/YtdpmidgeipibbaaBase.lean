/- The program draws in any order that is left open; a function by its number, as a value. -/
import Derived.Test.YtdpmidgeipibbaaRows
import Derived.Test.YtdpmidgeipibbaaEng10
namespace Go.Proofs.Ytdpmidgeipibbaa
open Go.Sh Go.RowKit
theorem mixed : Try.prog.follows .mixedOrders = true := by kernel_rfl
abbrev fnv (f : Nat) : Value := .func (.func f) #[] #[]
end Go.Proofs.Ytdpmidgeipibbaa
