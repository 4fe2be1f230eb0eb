/- The program draws in any order that is left open; a function by its number, as a value. -/
import Derived.Test.YtknineilpenbnaaDoorRows
import Derived.Test.YtknineilpenbnaaDoorEng10
namespace Go.Proofs.YtknineilpenbnaaDoor
open Go.Sh Go.RowKit
theorem mixed : Tryd.prog.follows .mixedOrders = true := by kernel_rfl
abbrev fnv (f : Nat) : Value := .func (.func f) #[] #[]
end Go.Proofs.YtknineilpenbnaaDoor
