/-
  A part of a proof: the statement that this text names holds. No conditions.
-/
import Derived.Test.YtifplgkfjpkppaaK7
set_option linter.unusedSimpArgs false
set_option linter.unusedVariables false
namespace Go.Proofs.Ytifplgkfjpkppaa.ladderShares
open Go.ChangeShapes Go.WideShapes Go.ChangeAt Go.RowKit Go.Sx
set_option maxRecDepth 100000
theorem own : ownKnob Try.prog.godebug = none := by kernel_rfl
theorem cells5 : Try.prog.cellsOf 5 = 1 := by kernel_rfl
theorem reads : ∀ t ∈ (Try.f3).params.toList, Try.prog.readableRec t = true ∧ t < Try.prog.types.size := by
  rw [Try.params3]
  intro t ht
  simp only [List.mem_cons, List.not_mem_nil, or_false] at ht
  rcases ht with rfl | rfl
  · exact ⟨by kernel_rfl, of_decide_eq_true (by kernel_rfl)⟩
  · exact ⟨by kernel_rfl, of_decide_eq_true (by kernel_rfl)⟩
theorem lifted (os : Os) (started : os.Started) (H : Type) (enc : TypeId × Value → H) :
    ReturnsInHanded {} Try.checked os 3 .any (Rows.ladderSharesSpec.pre6 enc Try.prog Try.f3 Rows.ladderSharesRow.domain false) (Rows.ladderSharesSpec.post enc Try.prog Try.f3 false true false false) := by
  refine returnsInHanded_of_change (C := Try.checked) own started (by kernel_rfl) Try.func3
    (ChangeSpec.witness6 (enc := enc) (C := Try.checked) false ⟨#[], #[.slice none 0 0, .slice none 0 0], []⟩ 8 (by kernel_rfl) (by kernel_rfl) (by kernel_rfl) (by kernel_rfl)) ?_
  intro W base args ds gs before hval0 hW hcnd _
  have hval : ∀ (j : Nat) t v, Try.f3.params[j]? = some t → args[j]? = some v → Value.okWide Try.prog W .any base t v := hval0
  have hW' := hW
  obtain ⟨p, q, hA0, hV, rfl, hfz, hnd⟩ := hW
  have hA : DataW.TrodAll enc Try.prog W 0 (fun _ => true) true Try.f3.params.toList args.toList ds p := hA0
  rw [Try.params3] at hA hval
  obtain ⟨v0, vs0, d0, ds0, p0, q0, hargs, rfl, rfl, h0, r0⟩ := trodAll_cons hA
  obtain ⟨v1, vs1, d1, ds1, p1, q1, rfl, rfl, rfl, h1, r1⟩ := trodAll_cons r0
  obtain ⟨rfl, rfl, rfl⟩ := trodAll_nil r1
  obtain rfl : args = #[v0, v1] := by cases args; simp_all
  obtain ⟨l0, wf0, den0⟩ := slice_den (k := .u8) Try.underlying22 Try.underlying5 cells5 (hval 0 22 v0 rfl rfl) h0
  have b0 : bytesOK l0 := fun x hx => by have := bounds_u8 (wf0 x hx); exact ⟨by omega, by omega⟩
  obtain ⟨l1, wf1, den1⟩ := slice_den (k := .u8) Try.underlying22 Try.underlying5 cells5 (hval 1 22 v1 rfl rfl) h1
  have b1 : bytesOK l1 := fun x hx => by have := bounds_u8 (wf1 x hx); exact ⟨by omega, by omega⟩
  have hd : DenRL W.heap (allOk W.heap) [.rs false (.ints .u8 l0), .rs false (.ints .u8 l1)] [v0, v1] := .cons den0 (.cons den1 (⟨rfl, fun i h => absurd h (Nat.not_lt_zero i)⟩))
  refine (law_calls ok_LadderShares Try.func3 (by kernel_rfl) (by kernel_rfl) rfl (fun r hr => by cases hr; exact ⟨b0, b1⟩) hd).mono fun e W' ⟨he, hg⟩ => ?_
  subst he
  exact ⟨_, rfl, law_post laid reads (by kernel_rfl) Try.underlying4 rfl (fun ds hds => by
    match ds, hds with
    | [_, _], _ => rfl) rfl hW' hg⟩
theorem facts : joinedFacts Try.prog 3 Try.f3 Rows.ladderSharesSpec Rows.ladderSharesRow = true := by
  unfold joinedFacts
  rw [Go.Proofs.Ytifplgkfjpkppaa.mayEnter, Go.Proofs.Ytifplgkfjpkppaa.liftsFinal, Go.Proofs.Ytifplgkfjpkppaa.make, Go.Proofs.Ytifplgkfjpkppaa.laid, Go.Proofs.Ytifplgkfjpkppaa.mapsRowed, Go.Proofs.Ytifplgkfjpkppaa.stops, Go.Proofs.Ytifplgkfjpkppaa.stopKnobs, Go.Proofs.Ytifplgkfjpkppaa.plainKeys, Go.Proofs.Ytifplgkfjpkppaa.stopsHeard]
  kernel_rfl
theorem over : Rows.ladderSharesRow.holds Try.pinned (OpenSpec.ofChange Rows.ladderSharesSpec) :=
  OpenClaim.holds_of_wide 3 Try.f3 rfl rfl rfl rfl rfl rfl rfl ⟨rfl, rfl, rfl, rfl, rfl⟩ rfl rfl rfl rfl rfl (by kernel_rfl) Try.func3 facts
    (of_decide_eq_true (by kernel_rfl)) (by unfold Func.isWrapper; first | (rw [if_pos (by decide +kernel)]; kernel_rfl) | (rw [if_neg (by decide +kernel)]; exact ⟨rfl, rfl⟩))
    (fun os started H enc _ => lifted os started H enc)
theorem proved : Rows.LadderSharesSaid :=
  over
#print axioms proved
end Go.Proofs.Ytifplgkfjpkppaa.ladderShares
