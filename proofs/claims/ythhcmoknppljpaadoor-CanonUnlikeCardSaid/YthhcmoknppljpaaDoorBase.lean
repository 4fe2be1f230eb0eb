/- The program draws in any order that is left open; a function by its number, as a value. -/
import Derived.Test.YthhcmoknppljpaaDoorRows
import Derived.Test.YthhcmoknppljpaaDoorEng10
namespace Go.Proofs.YthhcmoknppljpaaDoor
open Go.Sh Go.RowKit
theorem mixed : Tryd.prog.follows .mixedOrders = true := by kernel_rfl
abbrev fnv (f : Nat) : Value := .func (.func f) #[] #[]
end Go.Proofs.YthhcmoknppljpaaDoor
