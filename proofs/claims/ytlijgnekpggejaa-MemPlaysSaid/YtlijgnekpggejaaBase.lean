/- The program draws in any order that is left open; a function by its number, as a value. -/
import Derived.Test.YtlijgnekpggejaaRows
import Derived.Test.YtlijgnekpggejaaEng10
namespace Go.Proofs.Ytlijgnekpggejaa
open Go.Sh Go.RowKit
theorem mixed : Try.prog.follows .mixedOrders = true := by kernel_rfl
theorem kcast {p q : Prop} (e : p = q) (h : q) : p := e ▸ h
abbrev fnv (f : Nat) : Value := .func (.func f) #[] #[]
end Go.Proofs.Ytlijgnekpggejaa
