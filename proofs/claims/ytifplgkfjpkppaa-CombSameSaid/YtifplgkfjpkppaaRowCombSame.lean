/-
  A part of a proof: the statement that this text names holds. No conditions.
-/
import Derived.Test.YtifplgkfjpkppaaC6
set_option linter.unusedSimpArgs false
set_option linter.unusedVariables false
namespace Go.Proofs.Ytifplgkfjpkppaa.combSame
open Go.ChangeShapes Go.WideShapes Go.ChangeAt Go.RowKit Go.Sx
set_option maxRecDepth 100000
theorem own : ownKnob Try.prog.godebug = none := by kernel_rfl
theorem reads : ∀ t ∈ (Try.f5).params.toList, Try.prog.readableRec t = true ∧ t < Try.prog.types.size := by
  rw [Try.params5]
  intro t ht
  simp only [List.mem_cons, List.not_mem_nil, or_false] at ht
  rcases ht with rfl | rfl
  · exact ⟨by kernel_rfl, of_decide_eq_true (by kernel_rfl)⟩
  · exact ⟨by kernel_rfl, of_decide_eq_true (by kernel_rfl)⟩
theorem lifted (os : Os) (started : os.Started) (H : Type) (enc : TypeId × Value → H) :
    ReturnsInHanded {} Try.checked os 5 .any (Rows.combSameSpec.pre6 enc Try.prog Try.f5 Rows.combSameRow.domain false) (Rows.combSameSpec.post enc Try.prog Try.f5 false true false false) := by
  refine returnsInHanded_of_change (C := Try.checked) own started (by kernel_rfl) Try.func5
    (ChangeSpec.witness6 (enc := enc) (C := Try.checked) false ⟨#[], #[.int .i64 0, .int .i64 0], []⟩ 8 (by kernel_rfl) (by kernel_rfl) (by kernel_rfl) (by kernel_rfl)) ?_
  intro W base args ds gs before hval0 hW hcnd _
  have hval : ∀ (j : Nat) t v, Try.f5.params[j]? = some t → args[j]? = some v → Value.okWide Try.prog W .any base t v := hval0
  have hW' := hW
  obtain ⟨p, q, hA0, hV, rfl, hfz, hnd⟩ := hW
  have hA : DataW.TrodAll enc Try.prog W 0 (fun _ => true) true Try.f5.params.toList args.toList ds p := hA0
  rw [Try.params5] at hA hval
  obtain ⟨v0, vs0, d0, ds0, p0, q0, hargs, rfl, rfl, h0, r0⟩ := trodAll_cons hA
  obtain ⟨v1, vs1, d1, ds1, p1, q1, rfl, rfl, rfl, h1, r1⟩ := trodAll_cons r0
  obtain ⟨rfl, rfl, rfl⟩ := trodAll_nil r1
  obtain rfl : args = #[v0, v1] := by cases args; simp_all
  obtain ⟨l0, wf0, den0⟩ := int_den (k := .i64) Try.underlying3 (hval 0 3 v0 rfl rfl) h0
  have b0 : i64 l0 := by have := bounds_i64 wf0; exact ⟨by omega, by omega⟩
  obtain ⟨l1, wf1, den1⟩ := int_den (k := .i64) Try.underlying3 (hval 1 3 v1 rfl rfl) h1
  have b1 : i64 l1 := by have := bounds_i64 wf1; exact ⟨by omega, by omega⟩
  have hd : DenRL W.heap (allOk W.heap) [.int .i64 l0, .int .i64 l1] [v0, v1] := .cons den0 (.cons den1 (⟨rfl, fun i h => absurd h (Nat.not_lt_zero i)⟩))
  refine (law_calls ok_CombSame Try.func5 (by kernel_rfl) (by kernel_rfl) rfl (fun r hr => by cases hr; exact ⟨b0, b1⟩) hd).mono fun e W' ⟨he, hg⟩ => ?_
  subst he
  exact ⟨_, rfl, law_post laid reads (by kernel_rfl) Try.underlying4 rfl (fun ds hds => by
    match ds, hds with
    | [_, _], _ => rfl) rfl hW' hg⟩
theorem facts : joinedFacts Try.prog 5 Try.f5 Rows.combSameSpec Rows.combSameRow = true := by
  unfold joinedFacts
  rw [Go.Proofs.Ytifplgkfjpkppaa.mayEnter, Go.Proofs.Ytifplgkfjpkppaa.liftsFinal, Go.Proofs.Ytifplgkfjpkppaa.make, Go.Proofs.Ytifplgkfjpkppaa.laid, Go.Proofs.Ytifplgkfjpkppaa.mapsRowed, Go.Proofs.Ytifplgkfjpkppaa.stops, Go.Proofs.Ytifplgkfjpkppaa.stopKnobs, Go.Proofs.Ytifplgkfjpkppaa.plainKeys, Go.Proofs.Ytifplgkfjpkppaa.stopsHeard]
  kernel_rfl
theorem over : Rows.combSameRow.holds Try.pinned (OpenSpec.ofChange Rows.combSameSpec) :=
  OpenClaim.holds_of_wide 5 Try.f5 rfl rfl rfl rfl rfl rfl rfl ⟨rfl, rfl, rfl, rfl, rfl⟩ rfl rfl rfl rfl rfl (by kernel_rfl) Try.func5 facts
    (of_decide_eq_true (by kernel_rfl)) (by unfold Func.isWrapper; first | (rw [if_pos (by decide +kernel)]; kernel_rfl) | (rw [if_neg (by decide +kernel)]; exact ⟨rfl, rfl⟩))
    (fun os started H enc _ => lifted os started H enc)
theorem proved : Rows.CombSameSaid :=
  over
#print axioms proved
end Go.Proofs.Ytifplgkfjpkppaa.combSame
