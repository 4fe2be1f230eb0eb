/- The statement HeadUnlike holds: its walk, and what its arguments are. -/
import Derived.Test.YtohonkbneimkoaaRows
import Derived.Test.YtohonkbneimkoaaHeadL
import Derived.WalkKit
import Derived.ProofKit
import Derived.OpenShut
import Derived.ShutString
import Derived.ChangeOld
import Derived.Below
import Derived.SizedLaws
import Derived.Lib.SmallJoins
set_option linter.unusedVariables false
set_option linter.unusedSimpArgs false
namespace Go.Proofs.Ytohonkbneimkoaa.headUnlike
open Go.ChangeShapes Go.WideShapes Go.ChangeAt Go.RowKit Go.Joins Go.Sh
open Go.ChangeMaps (open_string shut_string)
theorem own : ownKnob Try.prog.godebug = none := by kernel_rfl
theorem cells63 : Try.prog.cellsOf 63 = 4 := by kernel_rfl
set_option maxRecDepth 100000 in
theorem lifted (os : Os) (started : os.Started) (H : Type) (enc : TypeId × Value → H) :
    ReturnsInHanded {} Try.checked os 14 .any (Rows.headUnlikeSpec.pre6 enc Try.prog Try.f14 Rows.headUnlikeRow.domain false) (Rows.headUnlikeSpec.post enc Try.prog Try.f14 false true false false) := by
  refine returnsInHanded_of_change_sized (C := Try.checked) own started (by kernel_rfl) Try.func14
    (ChangeSpec.witness6 (enc := enc) (C := Try.checked) false ⟨#[], #[.agg #[.int .i64 0, .int .i64 0, .bool false, .int .i64 0], .agg #[.int .i64 0, .int .i64 0, .bool false, .int .i64 0]], []⟩ 8 (by kernel_rfl) (by kernel_rfl) (by kernel_rfl) (by kernel_rfl)) ?_
  intro W base args ds gs before hval0 hW hcnd hsz0 _
  have hval : ∀ (j : Nat) t v, Try.f14.params[j]? = some t → args[j]? = some v → Value.okWide Try.prog W .any base t v := hval0
  have hW' := hW
  obtain ⟨p, q, hA0, hV, rfl, hfz, hnd⟩ := hW
  have hA : DataW.TrodAll enc Try.prog W 0 (fun _ => true) true Try.f14.params.toList args.toList ds p := hA0
  rw [Try.params14] at hA hval
  obtain ⟨v0, vs0, d0, ds0, p0, q0, hargs, rfl, rfl, h0, r0⟩ := trodAll_cons hA
  obtain ⟨v1, vs1, d1, ds1, p1, q1, rfl, rfl, rfl, h1, r1⟩ := trodAll_cons r0
  obtain ⟨rfl, rfl, rfl⟩ := trodAll_nil r1
  obtain rfl : args = #[v0, v1] := by cases args; simp_all
  obtain ⟨rfl, rfl⟩ := trodVars_none hV
  obtain ⟨c0_0, c0_1, c0_2, c0_3, y0_0, y0_1, y0_2, y0_3, m0, rfl, rfl, rfl, k0_0, k0_1, k0_2, k0_3⟩ := open_agg4 Try.underlying63 (by kernel_rfl) cells63 (hval 0 63 v0 rfl rfl) h0
  obtain ⟨a0_0, e0_0, rfl, w0_0⟩ := DataW.trod_int Try.underlying3 k0_0
  obtain ⟨a0_1, e0_1, rfl, w0_1⟩ := DataW.trod_int Try.underlying3 k0_1
  obtain ⟨a0_2, e0_2, rfl⟩ := DataW.trod_bool Try.underlying4 k0_2
  obtain ⟨a0_3, e0_3, rfl, w0_3⟩ := DataW.trod_int Try.underlying3 k0_3
  simp at e0_0 e0_1 e0_2 e0_3
  subst e0_0 e0_1 e0_2 e0_3
  obtain ⟨c1_0, c1_1, c1_2, c1_3, y1_0, y1_1, y1_2, y1_3, m1, rfl, rfl, rfl, k1_0, k1_1, k1_2, k1_3⟩ := open_agg4 Try.underlying63 (by kernel_rfl) cells63 (hval 1 63 v1 rfl rfl) h1
  obtain ⟨a1_0, e1_0, rfl, w1_0⟩ := DataW.trod_int Try.underlying3 k1_0
  obtain ⟨a1_1, e1_1, rfl, w1_1⟩ := DataW.trod_int Try.underlying3 k1_1
  obtain ⟨a1_2, e1_2, rfl⟩ := DataW.trod_bool Try.underlying4 k1_2
  obtain ⟨a1_3, e1_3, rfl, w1_3⟩ := DataW.trod_int Try.underlying3 k1_3
  simp at e1_0 e1_1 e1_2 e1_3
  subst e1_0 e1_1 e1_2 e1_3
  clear hA0 hval0
  have walk := HeadUnlike_spec a0_0 a0_1 a0_2 a0_3 a1_0 a1_1 a1_2 a1_3 W
  have walked : Calls Try.prog 14 #[.agg #[.int .i64 a0_0, .int .i64 a0_1, .bool a0_2, .int .i64 a0_3], .agg #[.int .i64 a1_0, .int .i64 a1_1, .bool a1_2, .int .i64 a1_3]] W fun e w' => e = .returned (.bool true) ∧ Below W.heap.size W w' :=
    Calls.mono (walk) fun e w' ⟨v, he, hv, hx⟩ => ⟨by rw [he, hv], hx.below⟩
  refine walked.mono fun e W' ⟨he, bel⟩ => ?_
  subst he
  simp only [List.append_nil] at hW'
  exact ⟨_, rfl, _, _, _, [], _, [], hW', trodAll_mk1 (shut_bool Try.underlying4 _), (trodAll_cons_mk (shut_agg4 (y0 := (.lit (.int .i64 a0_0), [])) (y1 := (.lit (.int .i64 a0_1), [])) (y2 := (.lit (.bool a0_2), [])) (y3 := (.lit (.int .i64 a0_3), [])) Try.underlying63 (by kernel_rfl) cells63 ⟨1, by simp [DataW.trod, show Try.checked.prog.underlying 3 = some (.int .i64) from Try.underlying3, w0_0]⟩ ⟨1, by simp [DataW.trod, show Try.checked.prog.underlying 3 = some (.int .i64) from Try.underlying3, w0_1]⟩ ⟨1, by simp [DataW.trod, show Try.checked.prog.underlying 4 = some .bool from Try.underlying4]⟩ ⟨1, by simp [DataW.trod, show Try.checked.prog.underlying 3 = some (.int .i64) from Try.underlying3, w0_3]⟩) (trodAll_cons_mk (shut_agg4 (y0 := (.lit (.int .i64 a1_0), [])) (y1 := (.lit (.int .i64 a1_1), [])) (y2 := (.lit (.bool a1_2), [])) (y3 := (.lit (.int .i64 a1_3), [])) Try.underlying63 (by kernel_rfl) cells63 ⟨1, by simp [DataW.trod, show Try.checked.prog.underlying 3 = some (.int .i64) from Try.underlying3, w1_0]⟩ ⟨1, by simp [DataW.trod, show Try.checked.prog.underlying 3 = some (.int .i64) from Try.underlying3, w1_1]⟩ ⟨1, by simp [DataW.trod, show Try.checked.prog.underlying 4 = some .bool from Try.underlying4]⟩ ⟨1, by simp [DataW.trod, show Try.checked.prog.underlying 3 = some (.int .i64) from Try.underlying3, w1_3]⟩) trodAll_mk0)), rfl, bel.frame _, fun h => by cases h⟩
theorem over : Rows.headUnlikeRow.holds Try.pinned (OpenSpec.ofChange Rows.headUnlikeSpec) :=
  OpenClaim.holds_of_wide 14 Try.f14 rfl rfl rfl rfl rfl rfl rfl ⟨rfl, rfl, rfl, rfl, rfl⟩ rfl rfl rfl rfl rfl (by kernel_rfl) Try.func14 (by kernel_rfl)
    (of_decide_eq_true (by kernel_rfl)) (by unfold Func.isWrapper; first | (rw [if_pos (by decide +kernel)]; kernel_rfl) | (rw [if_neg (by decide +kernel)]; exact ⟨rfl, rfl⟩))
    (fun os started H enc _ => lifted os started H enc)
theorem proved : Rows.HeadUnlikeSaid := over
end Go.Proofs.Ytohonkbneimkoaa.headUnlike
namespace Go.Proofs.Ytohonkbneimkoaa
/-- The row, under a short name, for the claim. -/
theorem headUnlike_holds : Rows.HeadUnlikeSaid := headUnlike.proved
end Go.Proofs.Ytohonkbneimkoaa
