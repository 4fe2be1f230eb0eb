/- Laws on the sectors that a space takes. -/
import Derived.Test.YtohonkbneimkoaaGeom2
set_option linter.unusedVariables false
set_option linter.unusedSimpArgs false
namespace Go.Proofs.Ytohonkbneimkoaa
open Go.Sh Go.RowKit

theorem fit_of {s l n : Int} (h : ¬ badGeom s l n) : Fit s l n := by unfold badGeom at h; exact ⟨by omega, by omega, by omega, by omega, by omega, by omega⟩
theorem one_mono {s n m : Int} (hs : 0 < s) (h : n ≤ m) : one s n ≤ one s m := by
  have h1 : (n * 8 + s - 1) / s ≤ (m * 8 + s - 1) / s := Int.ediv_le_ediv hs (by omega)
  unfold one; omega
theorem one_room {s n : Int} (hs : 0 < s) (hn : 0 ≤ n) : 8 * n ≤ one s n * s := by
  have h1 := Int.mul_ediv_add_emod (n * 8 + s - 1) s
  have h2 := Int.emod_lt_of_pos (n * 8 + s - 1) hs
  have h3 : 0 ≤ (n + 32 - 1) / 32 * s := Int.mul_nonneg (by omega) (by omega)
  have h4 : (n * 8 + s - 1) / s * s = s * ((n * 8 + s - 1) / s) := Int.mul_comm _ _
  unfold one
  rw [Int.add_mul]
  omega

end Go.Proofs.Ytohonkbneimkoaa
