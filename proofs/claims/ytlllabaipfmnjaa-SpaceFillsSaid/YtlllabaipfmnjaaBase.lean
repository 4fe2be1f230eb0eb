/- The program draws in any order that is left open; a function by its number, as a value. -/
import Derived.Test.YtlllabaipfmnjaaRows
import Derived.Test.YtlllabaipfmnjaaEng10
namespace Go.Proofs.Ytlllabaipfmnjaa
open Go.Sh Go.RowKit
theorem mixed : Try.prog.follows .mixedOrders = true := by kernel_rfl
theorem kcast {p q : Prop} (e : p = q) (h : q) : p := e ▸ h
abbrev fnv (f : Nat) : Value := .func (.func f) #[] #[]
end Go.Proofs.Ytlllabaipfmnjaa
