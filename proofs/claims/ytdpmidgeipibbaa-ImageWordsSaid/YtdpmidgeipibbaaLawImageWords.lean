/- The statement ImageWords holds: its walk, and what its arguments are. -/
import Derived.Test.YtdpmidgeipibbaaRows
import Derived.Test.YtdpmidgeipibbaaPk3
import Derived.WalkKit
import Derived.ProofKit
import Derived.OpenShut
import Derived.ShutString
import Derived.ChangeOld
import Derived.Below
import Derived.SizedLaws
import Derived.Lib.SmallJoins
import Derived.Test.YtdpmidgeipibbaaEng11
set_option linter.unusedVariables false
set_option linter.unusedSimpArgs false
namespace Go.Proofs.Ytdpmidgeipibbaa.imageWords
open Go.ChangeShapes Go.WideShapes Go.ChangeAt Go.RowKit Go.Joins Go.Sh
open Go.ChangeMaps (open_string shut_string)
theorem own : ownKnob Try.prog.godebug = none := by kernel_rfl
theorem cells69 : Try.prog.cellsOf 69 = 1 := by kernel_rfl
set_option maxRecDepth 100000 in
theorem lifted (os : Os) (started : os.Started) (H : Type) (enc : TypeId × Value → H) :
    ReturnsInHanded {} Try.checked os 7 .any (Rows.imageWordsSpec.pre6 enc Try.prog Try.f7 Rows.imageWordsRow.domain false) (Rows.imageWordsSpec.post enc Try.prog Try.f7 false true false false) := by
  refine returnsInHanded_of_change_sized (C := Try.checked) own started (by kernel_rfl) Try.func7
    (ChangeSpec.witness6 (enc := enc) (C := Try.checked) false ⟨#[], #[.slice none 0 0], []⟩ 8 (by kernel_rfl) (by kernel_rfl) (by kernel_rfl) (by kernel_rfl)) ?_
  intro W base args ds gs before hval0 hW hcnd hsz0 _
  have hval : ∀ (j : Nat) t v, Try.f7.params[j]? = some t → args[j]? = some v → Value.okWide Try.prog W .any base t v := hval0
  have hW' := hW
  obtain ⟨p, q, hA0, hV, rfl, hfz, hnd⟩ := hW
  have hA : DataW.TrodAll enc Try.prog W 0 (fun _ => true) true Try.f7.params.toList args.toList ds p := hA0
  rw [Try.params7] at hA hval
  obtain ⟨v0, vs0, d0, ds0, p0, q0, hargs, rfl, rfl, h0, r0⟩ := trodAll_cons hA
  obtain ⟨rfl, rfl, rfl⟩ := trodAll_nil r0
  obtain rfl : args = #[v0] := by cases args; simp_all
  obtain ⟨rfl, rfl⟩ := trodVars_none hV
  obtain ⟨a0, n0, c0, zs0, rfl, ln0, cp0, bg0, nl0, rw0, wf0⟩ := open_row Try.underlying28 Try.underlying69 cells69 (hval 0 28 v0 rfl rfl) h0
  have walk := ImageWords_spec (zs0.map (BitVec.ofInt 64)) a0 n0 c0 W (wordsArg ln0 cp0 bg0 nl0 rw0 wf0)
  have walked : Calls Try.prog 7 #[.slice a0 n0 c0] W fun e w' => e = .returned (.bool true) ∧ Below W.heap.size W w' :=
    Calls.mono (walk) fun e w' ⟨v, he, hv, hx⟩ => ⟨by rw [he, hv], hx.below⟩
  refine walked.mono fun e W' ⟨he, bel⟩ => ?_
  subst he
  simp only [List.append_nil] at hW'
  exact ⟨_, rfl, _, _, _, [], _, [], hW', trodAll_mk1 (shut_bool Try.underlying4 _), trodAll_stays (by kernel_rfl) bel (by kernel_rfl) hA0, rfl, bel.frame _, fun h => by cases h⟩
theorem over : Rows.imageWordsRow.holds Try.pinned (OpenSpec.ofChange Rows.imageWordsSpec) :=
  OpenClaim.holds_of_wide 7 Try.f7 rfl rfl rfl rfl rfl rfl rfl ⟨rfl, rfl, rfl, rfl, rfl⟩ rfl rfl rfl rfl rfl (by kernel_rfl) Try.func7 (by kernel_rfl)
    (of_decide_eq_true (by kernel_rfl)) (by unfold Func.isWrapper; first | (rw [if_pos (by decide +kernel)]; kernel_rfl) | (rw [if_neg (by decide +kernel)]; exact ⟨rfl, rfl⟩))
    (fun os started H enc _ => lifted os started H enc)
theorem proved : Rows.ImageWordsSaid := over
end Go.Proofs.Ytdpmidgeipibbaa.imageWords
namespace Go.Proofs.Ytdpmidgeipibbaa
/-- The row, under a short name, for the claim. -/
theorem imageWords_holds : Rows.ImageWordsSaid := imageWords.proved
end Go.Proofs.Ytdpmidgeipibbaa
