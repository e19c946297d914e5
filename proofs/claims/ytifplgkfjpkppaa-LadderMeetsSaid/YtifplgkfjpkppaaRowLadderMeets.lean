/-
  A part of a proof: the statement that this text names holds. No conditions.
-/
import Derived.Test.YtifplgkfjpkppaaK7
set_option linter.unusedSimpArgs false
set_option linter.unusedVariables false
namespace Go.Proofs.Ytifplgkfjpkppaa.ladderMeets
open Go.ChangeShapes Go.WideShapes Go.ChangeAt Go.RowKit Go.Sx
set_option maxRecDepth 100000
theorem own : ownKnob Try.prog.godebug = none := by kernel_rfl
theorem cells5 : Try.prog.cellsOf 5 = 1 := by kernel_rfl
theorem cells35 : Try.prog.cellsOf 35 = 56 := by kernel_rfl
theorem reads : ∀ t ∈ (Try.f4).params.toList, Try.prog.readableRec t = true ∧ t < Try.prog.types.size := by
  rw [Try.params4]
  intro t ht
  simp only [List.mem_cons, List.not_mem_nil, or_false] at ht
  rcases ht with rfl | rfl | rfl
  · exact ⟨by kernel_rfl, of_decide_eq_true (by kernel_rfl)⟩
  · exact ⟨by kernel_rfl, of_decide_eq_true (by kernel_rfl)⟩
  · exact ⟨by kernel_rfl, of_decide_eq_true (by kernel_rfl)⟩
theorem lifted (os : Os) (started : os.Started) (H : Type) (enc : TypeId × Value → H) :
    ReturnsInHanded {} Try.checked os 4 .any (Rows.ladderMeetsSpec.pre6 enc Try.prog Try.f4 Rows.ladderMeetsRow.domain false) (Rows.ladderMeetsSpec.post enc Try.prog Try.f4 false true false false) := by
  refine returnsInHanded_of_change (C := Try.checked) own started (by kernel_rfl) Try.func4
    (ChangeSpec.witness6 (enc := enc) (C := Try.checked) false ⟨#[], #[.agg (Array.replicate 56 (.int .u8 0)), .agg (Array.replicate 56 (.int .u8 0)), .agg (Array.replicate 56 (.int .u8 0))], []⟩ 8 (by kernel_rfl) (by kernel_rfl) (by kernel_rfl) (by kernel_rfl)) ?_
  intro W base args ds gs before hval0 hW hcnd _
  have hval : ∀ (j : Nat) t v, Try.f4.params[j]? = some t → args[j]? = some v → Value.okWide Try.prog W .any base t v := hval0
  have hW' := hW
  obtain ⟨p, q, hA0, hV, rfl, hfz, hnd⟩ := hW
  have hA : DataW.TrodAll enc Try.prog W 0 (fun _ => true) true Try.f4.params.toList args.toList ds p := hA0
  rw [Try.params4] at hA hval
  obtain ⟨v0, vs0, d0, ds0, p0, q0, hargs, rfl, rfl, h0, r0⟩ := trodAll_cons hA
  obtain ⟨v1, vs1, d1, ds1, p1, q1, rfl, rfl, rfl, h1, r1⟩ := trodAll_cons r0
  obtain ⟨v2, vs2, d2, ds2, p2, q2, rfl, rfl, rfl, h2, r2⟩ := trodAll_cons r1
  obtain ⟨rfl, rfl, rfl⟩ := trodAll_nil r2
  obtain rfl : args = #[v0, v1, v2] := by cases args; simp_all
  obtain ⟨l0, n0, wf0, den0⟩ := array_den (k := .u8) Try.underlying35 Try.underlying5 cells5 cells35 (hval 0 35 v0 rfl rfl) h0
  have b0 : bK l0 := ⟨n0, fun x hx => by have := bounds_u8 (wf0 x hx); exact ⟨by omega, by omega⟩⟩
  obtain ⟨l1, n1, wf1, den1⟩ := array_den (k := .u8) Try.underlying35 Try.underlying5 cells5 cells35 (hval 1 35 v1 rfl rfl) h1
  have b1 : bK l1 := ⟨n1, fun x hx => by have := bounds_u8 (wf1 x hx); exact ⟨by omega, by omega⟩⟩
  obtain ⟨l2, n2, wf2, den2⟩ := array_den (k := .u8) Try.underlying35 Try.underlying5 cells5 cells35 (hval 2 35 v2 rfl rfl) h2
  have b2 : bK l2 := ⟨n2, fun x hx => by have := bounds_u8 (wf2 x hx); exact ⟨by omega, by omega⟩⟩
  have hsh : (A3 aRaw aRaw aRaw).is [.ints .u8 l0, .ints .u8 l1, .ints .u8 l2] = true := by
    show (Nat.beq l0.length 56 && (Nat.beq l1.length 56 && (Nat.beq l2.length 56 && true))) = true
    rw [n0, n1, n2]; rfl
  have hd : DenRL W.heap (allOk W.heap) [.ints .u8 l0, .ints .u8 l1, .ints .u8 l2] [v0, v1, v2] := .cons den0 (.cons den1 (.cons den2 (⟨rfl, fun i h => absurd h (Nat.not_lt_zero i)⟩)))
  refine (law_calls ok_LadderMeets Try.func4 (by kernel_rfl) (by kernel_rfl) hsh (fun r hr => by cases hr; exact ⟨b0, b1, b2⟩) hd).mono fun e W' ⟨he, hg⟩ => ?_
  subst he
  exact ⟨_, rfl, law_post laid reads (by kernel_rfl) Try.underlying4 rfl (fun ds hds => by
    match ds, hds with
    | [_, _, _], _ => rfl) rfl hW' hg⟩
theorem facts : joinedFacts Try.prog 4 Try.f4 Rows.ladderMeetsSpec Rows.ladderMeetsRow = true := by
  unfold joinedFacts
  rw [Go.Proofs.Ytifplgkfjpkppaa.mayEnter, Go.Proofs.Ytifplgkfjpkppaa.liftsFinal, Go.Proofs.Ytifplgkfjpkppaa.make, Go.Proofs.Ytifplgkfjpkppaa.laid, Go.Proofs.Ytifplgkfjpkppaa.mapsRowed, Go.Proofs.Ytifplgkfjpkppaa.stops, Go.Proofs.Ytifplgkfjpkppaa.stopKnobs, Go.Proofs.Ytifplgkfjpkppaa.plainKeys, Go.Proofs.Ytifplgkfjpkppaa.stopsHeard]
  kernel_rfl
theorem over : Rows.ladderMeetsRow.holds Try.pinned (OpenSpec.ofChange Rows.ladderMeetsSpec) :=
  OpenClaim.holds_of_wide 4 Try.f4 rfl rfl rfl rfl rfl rfl rfl ⟨rfl, rfl, rfl, rfl, rfl⟩ rfl rfl rfl rfl rfl (by kernel_rfl) Try.func4 facts
    (of_decide_eq_true (by kernel_rfl)) (by unfold Func.isWrapper; first | (rw [if_pos (by decide +kernel)]; kernel_rfl) | (rw [if_neg (by decide +kernel)]; exact ⟨rfl, rfl⟩))
    (fun os started H enc _ => lifted os started H enc)
theorem proved : Rows.LadderMeetsSaid :=
  over
#print axioms proved
end Go.Proofs.Ytifplgkfjpkppaa.ladderMeets
