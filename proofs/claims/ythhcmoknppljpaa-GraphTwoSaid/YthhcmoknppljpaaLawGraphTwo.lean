/- The statement GraphTwo holds: its walk, and what its arguments are. -/
import Derived.Test.YthhcmoknppljpaaRows
import Derived.Test.YthhcmoknppljpaaPk2
import Derived.WalkKit
import Derived.ProofKit
import Derived.OpenShut
import Derived.ShutString
import Derived.ChangeOld
import Derived.Below
import Derived.SizedLaws
import Derived.Lib.SmallJoins
import Derived.Test.YthhcmoknppljpaaEng11
set_option linter.unusedVariables false
set_option linter.unusedSimpArgs false
namespace Go.Proofs.Ythhcmoknppljpaa.graphTwo
open Go.ChangeShapes Go.WideShapes Go.ChangeAt Go.RowKit Go.Joins Go.Sh
open Go.ChangeMaps (open_string shut_string)
theorem own : ownKnob Try.prog.godebug = none := by kernel_rfl
set_option maxRecDepth 100000 in
theorem lifted (os : Os) (started : os.Started) (H : Type) (enc : TypeId × Value → H) :
    ReturnsInHanded {} Try.checked os 4 .any (Rows.graphTwoSpec.pre6 enc Try.prog Try.f4 Rows.graphTwoRow.domain false) (Rows.graphTwoSpec.post enc Try.prog Try.f4 false true false false) := by
  refine returnsInHanded_of_change_sized (C := Try.checked) own started (by kernel_rfl) Try.func4
    (ChangeSpec.witness6 (enc := enc) (C := Try.checked) false ⟨#[], #[.agg #[.slice none 0 0, .slice none 0 0], .agg #[.slice none 0 0, .slice none 0 0]], []⟩ 8 (by kernel_rfl) (by kernel_rfl) (by kernel_rfl) (by kernel_rfl)) ?_
  intro W base args ds gs before hval0 hW hcnd hsz0 _
  have hval : ∀ (j : Nat) t v, Try.f4.params[j]? = some t → args[j]? = some v → Value.okWide Try.prog W .any base t v := hval0
  have hW' := hW
  obtain ⟨p, q, hA0, hV, rfl, hfz, hnd⟩ := hW
  have hA : DataW.TrodAll enc Try.prog W 0 (fun _ => true) true Try.f4.params.toList args.toList ds p := hA0
  rw [Try.params4] at hA hval
  obtain ⟨v0, vs0, d0, ds0, p0, q0, hargs, rfl, rfl, h0, r0⟩ := trodAll_cons hA
  obtain ⟨v1, vs1, d1, ds1, p1, q1, rfl, rfl, rfl, h1, r1⟩ := trodAll_cons r0
  obtain ⟨rfl, rfl, rfl⟩ := trodAll_nil r1
  obtain rfl : args = #[v0, v1] := by cases args; simp_all
  obtain ⟨rfl, rfl⟩ := trodVars_none hV
  obtain ⟨a0, rfl, fa0⟩ := graph_open1 (hval 0 25 v0 rfl rfl) h0
  obtain ⟨a1, rfl, fa1⟩ := graph_open1 (hval 1 25 v1 rfl rfl) h1
  have walk := GraphTwo_spec a0 a1 W fa0 fa1
  have walked : Calls Try.prog 4 #[gPV a0, gPV a1] W fun e w' => e = .returned (.bool true) ∧ Below W.heap.size W w' :=
    Calls.mono (walk) fun e w' ⟨v, he, hv, hx⟩ => ⟨by rw [he, hv], hx.below⟩
  refine walked.mono fun e W' ⟨he, bel⟩ => ?_
  subst he
  simp only [List.append_nil] at hW'
  exact ⟨_, rfl, _, _, _, [], _, [], hW', trodAll_mk1 (shut_bool Try.underlying4 _), trodAll_stays (by kernel_rfl) bel (by kernel_rfl) hA0, rfl, bel.frame _, fun h => by cases h⟩
theorem over : Rows.graphTwoRow.holds Try.pinned (OpenSpec.ofChange Rows.graphTwoSpec) :=
  OpenClaim.holds_of_wide 4 Try.f4 rfl rfl rfl rfl rfl rfl rfl ⟨rfl, rfl, rfl, rfl, rfl⟩ rfl rfl rfl rfl rfl (by kernel_rfl) Try.func4 (by kernel_rfl)
    (of_decide_eq_true (by kernel_rfl)) (by unfold Func.isWrapper; first | (rw [if_pos (by decide +kernel)]; kernel_rfl) | (rw [if_neg (by decide +kernel)]; exact ⟨rfl, rfl⟩))
    (fun os started H enc _ => lifted os started H enc)
theorem proved : Rows.GraphTwoSaid := over
end Go.Proofs.Ythhcmoknppljpaa.graphTwo
namespace Go.Proofs.Ythhcmoknppljpaa
/-- The row, under a short name, for the claim. -/
theorem graphTwo_holds : Rows.GraphTwoSaid := graphTwo.proved
end Go.Proofs.Ythhcmoknppljpaa
