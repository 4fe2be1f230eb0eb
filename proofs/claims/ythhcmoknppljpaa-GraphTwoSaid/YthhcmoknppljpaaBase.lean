/- The program draws in any order that is left open; a function by its number, as a value. -/
import Derived.Test.YthhcmoknppljpaaRows
import Derived.Test.YthhcmoknppljpaaEng10
namespace Go.Proofs.Ythhcmoknppljpaa
open Go.Sh Go.RowKit
theorem mixed : Try.prog.follows .mixedOrders = true := by kernel_rfl
abbrev fnv (f : Nat) : Value := .func (.func f) #[] #[]
end Go.Proofs.Ythhcmoknppljpaa
