/-
  No cell of these rows narrows 'for every input' (looked for: loops, veiled, ifaces, maps, wideKeys, modest, calm, conditions, laid).
  DERIVED. THE GIVEN ROWS OF THIS SEAT. 20 by the template 'for every input the law returns true; each argument reads behind the call as it read before'; 0 by the template 'total and deterministic' (their statements: YtifplgkfjpkppaaTotals.lean).
  GIVEN WITH THE SEED: the statements are not yours to turn. If you find one false, say at which input.
  Laid BY PROGRAM, IN A SANDBOX (cutbox-rows.mjs): the forced cells as the released guide's own fill.sh prints them over the translation 40c74a47c6276ae3… (all of the seat's roots in one cut). By AI agents, Wed Nov 11 2026. No macro, syntax, notation, axiom, sorry.
-/
import Derived.Test.YtifplgkfjpkppaaChecked
import GoSem.Claim
import GoSem.ClaimJoined
import GoSem.ClaimMapViews
import Derived.JoinedTies
import Derived.KernelRfl
namespace Go.Proofs.Ytifplgkfjpkppaa
/- THE CELL 'sum', in the pinned program and in every row, IS THE sha256 OF THE DUMP (.gsa) THAT YtifplgkfjpkppaaProg.lean LOADS. Nothing in Lean hashes anything: it is a label: what it is worth is what the hold of that sum in a sandbox is worth. -/
noncomputable def Try.pinned : Pinned := { name := "ytifplgkfjpkppaa", sum := "40c74a47c6276ae3ae01c3da06630427ff20f73c195539ff38bf779de3ed3021", checked := Try.checked }
namespace Rows
def none {H : Type} : Left H := { results := [], args := [] }

/-- 'chicorylaw10.LadderShares': WHATEVER THE INPUT: true; the input reads as it did. -/
def ladderSharesSpec : ChangeSpec := { name := "ladderShares", fn := fun _ => fun
  | [d1, d2] => { results := [.lit (.bool true)], args := [d1, d2] }
  | _ => none }
def ladderSharesRow : OpenClaim := { program := "ytifplgkfjpkppaa", sum := "40c74a47c6276ae3ae01c3da06630427ff20f73c195539ff38bf779de3ed3021", func := "chicory/chicorylaw10.LadderShares", spec := "ladderShares", inPlace := ["math/bits.Add64", "math/bits.Sub64"], unfollowed := true, recurses := true, apart := false }
def LadderSharesSaid : Prop := ladderSharesRow.holds Try.pinned (OpenSpec.ofChange ladderSharesSpec)

/-- ITS FALSE NEIGHBOUR: 'it returns false'. Refute it at one input. -/
def ladderSharesWrong : ChangeSpec := { name := "ladderShares", fn := fun _ => fun
  | [d1, d2] => { results := [.lit (.bool false)], args := [d1, d2] }
  | _ => none }
def LadderSharesWrongFalsely : Prop := ladderSharesRow.holds Try.pinned (OpenSpec.ofChange ladderSharesWrong)

/-- 'chicorylaw10.LadderMeets': WHATEVER THE INPUT: true; the input reads as it did. -/
def ladderMeetsSpec : ChangeSpec := { name := "ladderMeets", fn := fun _ => fun
  | [d1, d2, d3] => { results := [.lit (.bool true)], args := [d1, d2, d3] }
  | _ => none }
def ladderMeetsRow : OpenClaim := { program := "ytifplgkfjpkppaa", sum := "40c74a47c6276ae3ae01c3da06630427ff20f73c195539ff38bf779de3ed3021", func := "chicory/chicorylaw10.LadderMeets", spec := "ladderMeets", inPlace := ["math/bits.Sub64", "math/bits.Add64"], unfollowed := true, recurses := true, apart := false }
def LadderMeetsSaid : Prop := ladderMeetsRow.holds Try.pinned (OpenSpec.ofChange ladderMeetsSpec)

/-- ITS FALSE NEIGHBOUR: 'it returns false'. Refute it at one input. -/
def ladderMeetsWrong : ChangeSpec := { name := "ladderMeets", fn := fun _ => fun
  | [d1, d2, d3] => { results := [.lit (.bool false)], args := [d1, d2, d3] }
  | _ => none }
def LadderMeetsWrongFalsely : Prop := ladderMeetsRow.holds Try.pinned (OpenSpec.ofChange ladderMeetsWrong)

/-- 'chicorylaw11.CombSame': WHATEVER THE INPUT: true; the input reads as it did. -/
def combSameSpec : ChangeSpec := { name := "combSame", fn := fun _ => fun
  | [d1, d2] => { results := [.lit (.bool true)], args := [d1, d2] }
  | _ => none }
def combSameRow : OpenClaim := { program := "ytifplgkfjpkppaa", sum := "40c74a47c6276ae3ae01c3da06630427ff20f73c195539ff38bf779de3ed3021", func := "chicory/chicorylaw11.CombSame", spec := "combSame", inPlace := ["math/bits.Add64", "math/bits.Sub64"], unfollowed := true, recurses := true, apart := false }
def CombSameSaid : Prop := combSameRow.holds Try.pinned (OpenSpec.ofChange combSameSpec)

/-- ITS FALSE NEIGHBOUR: 'it returns false'. Refute it at one input. -/
def combSameWrong : ChangeSpec := { name := "combSame", fn := fun _ => fun
  | [d1, d2] => { results := [.lit (.bool false)], args := [d1, d2] }
  | _ => none }
def CombSameWrongFalsely : Prop := combSameRow.holds Try.pinned (OpenSpec.ofChange combSameWrong)

/-- 'chicorylaw05.RootSums': WHATEVER THE INPUT: true; the input reads as it did. -/
def rootSumsSpec : ChangeSpec := { name := "rootSums", fn := fun _ => fun
  | [d1, d2, d3] => { results := [.lit (.bool true)], args := [d1, d2, d3] }
  | _ => none }
def rootSumsRow : OpenClaim := { program := "ytifplgkfjpkppaa", sum := "40c74a47c6276ae3ae01c3da06630427ff20f73c195539ff38bf779de3ed3021", func := "chicory/chicorylaw05.RootSums", spec := "rootSums", inPlace := ["math/bits.Add64", "math/bits.Sub64"], unfollowed := true, recurses := true, apart := false }
def RootSumsSaid : Prop := rootSumsRow.holds Try.pinned (OpenSpec.ofChange rootSumsSpec)

/-- ITS FALSE NEIGHBOUR: 'it returns false'. Refute it at one input. -/
def rootSumsWrong : ChangeSpec := { name := "rootSums", fn := fun _ => fun
  | [d1, d2, d3] => { results := [.lit (.bool false)], args := [d1, d2, d3] }
  | _ => none }
def RootSumsWrongFalsely : Prop := rootSumsRow.holds Try.pinned (OpenSpec.ofChange rootSumsWrong)

/-- 'chicorylaw09.CodingWrites': WHATEVER THE INPUT: true; the input reads as it did. -/
def codingWritesSpec : ChangeSpec := { name := "codingWrites", fn := fun _ => fun
  | [d] => { results := [.lit (.bool true)], args := [d] }
  | _ => none }
def codingWritesRow : OpenClaim := { program := "ytifplgkfjpkppaa", sum := "40c74a47c6276ae3ae01c3da06630427ff20f73c195539ff38bf779de3ed3021", func := "chicory/chicorylaw09.CodingWrites", spec := "codingWrites", inPlace := ["math/bits.Add64", "math/bits.Sub64"], unfollowed := true, recurses := true, apart := false }
def CodingWritesSaid : Prop := codingWritesRow.holds Try.pinned (OpenSpec.ofChange codingWritesSpec)

/-- ITS FALSE NEIGHBOUR: 'it returns false'. Refute it at one input. -/
def codingWritesWrong : ChangeSpec := { name := "codingWrites", fn := fun _ => fun
  | [d] => { results := [.lit (.bool false)], args := [d] }
  | _ => none }
def CodingWritesWrongFalsely : Prop := codingWritesRow.holds Try.pinned (OpenSpec.ofChange codingWritesWrong)

/-- 'chicorylaw09.CodingBack': WHATEVER THE INPUT: true; the input reads as it did. -/
def codingBackSpec : ChangeSpec := { name := "codingBack", fn := fun _ => fun
  | [d1, d2] => { results := [.lit (.bool true)], args := [d1, d2] }
  | _ => none }
def codingBackRow : OpenClaim := { program := "ytifplgkfjpkppaa", sum := "40c74a47c6276ae3ae01c3da06630427ff20f73c195539ff38bf779de3ed3021", func := "chicory/chicorylaw09.CodingBack", spec := "codingBack", inPlace := ["math/bits.Add64", "math/bits.Sub64"], unfollowed := true, recurses := true, apart := false }
def CodingBackSaid : Prop := codingBackRow.holds Try.pinned (OpenSpec.ofChange codingBackSpec)

/-- ITS FALSE NEIGHBOUR: 'it returns false'. Refute it at one input. -/
def codingBackWrong : ChangeSpec := { name := "codingBack", fn := fun _ => fun
  | [d1, d2] => { results := [.lit (.bool false)], args := [d1, d2] }
  | _ => none }
def CodingBackWrongFalsely : Prop := codingBackRow.holds Try.pinned (OpenSpec.ofChange codingBackWrong)

/-- 'chicorylaw09.CodingSame': WHATEVER THE INPUT: true; the input reads as it did. -/
def codingSameSpec : ChangeSpec := { name := "codingSame", fn := fun _ => fun
  | [d1, d2] => { results := [.lit (.bool true)], args := [d1, d2] }
  | _ => none }
def codingSameRow : OpenClaim := { program := "ytifplgkfjpkppaa", sum := "40c74a47c6276ae3ae01c3da06630427ff20f73c195539ff38bf779de3ed3021", func := "chicory/chicorylaw09.CodingSame", spec := "codingSame", inPlace := ["math/bits.Add64", "math/bits.Sub64"], unfollowed := true, recurses := true, apart := false }
def CodingSameSaid : Prop := codingSameRow.holds Try.pinned (OpenSpec.ofChange codingSameSpec)

/-- ITS FALSE NEIGHBOUR: 'it returns false'. Refute it at one input. -/
def codingSameWrong : ChangeSpec := { name := "codingSame", fn := fun _ => fun
  | [d1, d2] => { results := [.lit (.bool false)], args := [d1, d2] }
  | _ => none }
def CodingSameWrongFalsely : Prop := codingSameRow.holds Try.pinned (OpenSpec.ofChange codingSameWrong)

/-- 'chicorylaw13.TwistPoints': WHATEVER THE INPUT: true; the input reads as it did. -/
def twistPointsSpec : ChangeSpec := { name := "twistPoints", fn := fun _ => fun
  | [d1, d2, d3] => { results := [.lit (.bool true)], args := [d1, d2, d3] }
  | _ => none }
def twistPointsRow : OpenClaim := { program := "ytifplgkfjpkppaa", sum := "40c74a47c6276ae3ae01c3da06630427ff20f73c195539ff38bf779de3ed3021", func := "chicory/chicorylaw13.TwistPoints", spec := "twistPoints", inPlace := ["math/bits.Add64", "math/bits.Sub64"], unfollowed := true, recurses := true, apart := false }
def TwistPointsSaid : Prop := twistPointsRow.holds Try.pinned (OpenSpec.ofChange twistPointsSpec)

/-- ITS FALSE NEIGHBOUR: 'it returns false'. Refute it at one input. -/
def twistPointsWrong : ChangeSpec := { name := "twistPoints", fn := fun _ => fun
  | [d1, d2, d3] => { results := [.lit (.bool false)], args := [d1, d2, d3] }
  | _ => none }
def TwistPointsWrongFalsely : Prop := twistPointsRow.holds Try.pinned (OpenSpec.ofChange twistPointsWrong)

/-- 'chicorylaw13.TwistAdds': WHATEVER THE INPUT: true; the input reads as it did. -/
def twistAddsSpec : ChangeSpec := { name := "twistAdds", fn := fun _ => fun
  | [d] => { results := [.lit (.bool true)], args := [d] }
  | _ => none }
def twistAddsRow : OpenClaim := { program := "ytifplgkfjpkppaa", sum := "40c74a47c6276ae3ae01c3da06630427ff20f73c195539ff38bf779de3ed3021", func := "chicory/chicorylaw13.TwistAdds", spec := "twistAdds", inPlace := ["math/bits.Sub64", "math/bits.Add64"], unfollowed := true, recurses := true, apart := false }
def TwistAddsSaid : Prop := twistAddsRow.holds Try.pinned (OpenSpec.ofChange twistAddsSpec)

/-- ITS FALSE NEIGHBOUR: 'it returns false'. Refute it at one input. -/
def twistAddsWrong : ChangeSpec := { name := "twistAdds", fn := fun _ => fun
  | [d] => { results := [.lit (.bool false)], args := [d] }
  | _ => none }
def TwistAddsWrongFalsely : Prop := twistAddsRow.holds Try.pinned (OpenSpec.ofChange twistAddsWrong)

/-- 'chicorylaw13.TwistHomes': WHATEVER THE INPUT: true; the input reads as it did. -/
def twistHomesSpec : ChangeSpec := { name := "twistHomes", fn := fun _ => fun
  | [d1, d2] => { results := [.lit (.bool true)], args := [d1, d2] }
  | _ => none }
def twistHomesRow : OpenClaim := { program := "ytifplgkfjpkppaa", sum := "40c74a47c6276ae3ae01c3da06630427ff20f73c195539ff38bf779de3ed3021", func := "chicory/chicorylaw13.TwistHomes", spec := "twistHomes", inPlace := ["math/bits.Sub64", "math/bits.Add64"], unfollowed := true, recurses := true, apart := false }
def TwistHomesSaid : Prop := twistHomesRow.holds Try.pinned (OpenSpec.ofChange twistHomesSpec)

/-- ITS FALSE NEIGHBOUR: 'it returns false'. Refute it at one input. -/
def twistHomesWrong : ChangeSpec := { name := "twistHomes", fn := fun _ => fun
  | [d1, d2] => { results := [.lit (.bool false)], args := [d1, d2] }
  | _ => none }
def TwistHomesWrongFalsely : Prop := twistHomesRow.holds Try.pinned (OpenSpec.ofChange twistHomesWrong)

/-- 'chicorylaw13.TwistFours': WHATEVER THE INPUT: true; the input reads as it did. -/
def twistFoursSpec : ChangeSpec := { name := "twistFours", fn := fun _ => fun
  | [d] => { results := [.lit (.bool true)], args := [d] }
  | _ => none }
def twistFoursRow : OpenClaim := { program := "ytifplgkfjpkppaa", sum := "40c74a47c6276ae3ae01c3da06630427ff20f73c195539ff38bf779de3ed3021", func := "chicory/chicorylaw13.TwistFours", spec := "twistFours", inPlace := ["math/bits.Sub64", "math/bits.Add64"], unfollowed := true, recurses := true, apart := false }
def TwistFoursSaid : Prop := twistFoursRow.holds Try.pinned (OpenSpec.ofChange twistFoursSpec)

/-- ITS FALSE NEIGHBOUR: 'it returns false'. Refute it at one input. -/
def twistFoursWrong : ChangeSpec := { name := "twistFours", fn := fun _ => fun
  | [d] => { results := [.lit (.bool false)], args := [d] }
  | _ => none }
def TwistFoursWrongFalsely : Prop := twistFoursRow.holds Try.pinned (OpenSpec.ofChange twistFoursWrong)

/-- 'chicorylaw10.LadderPoints': WHATEVER THE INPUT: true; the input reads as it did. -/
def ladderPointsSpec : ChangeSpec := { name := "ladderPoints", fn := fun _ => fun
  | [d1, d2] => { results := [.lit (.bool true)], args := [d1, d2] }
  | _ => none }
def ladderPointsRow : OpenClaim := { program := "ytifplgkfjpkppaa", sum := "40c74a47c6276ae3ae01c3da06630427ff20f73c195539ff38bf779de3ed3021", func := "chicory/chicorylaw10.LadderPoints", spec := "ladderPoints", inPlace := ["math/bits.Add64", "math/bits.Sub64"], unfollowed := true, recurses := true, apart := false }
def LadderPointsSaid : Prop := ladderPointsRow.holds Try.pinned (OpenSpec.ofChange ladderPointsSpec)

/-- ITS FALSE NEIGHBOUR: 'it returns false'. Refute it at one input. -/
def ladderPointsWrong : ChangeSpec := { name := "ladderPoints", fn := fun _ => fun
  | [d1, d2] => { results := [.lit (.bool false)], args := [d1, d2] }
  | _ => none }
def LadderPointsWrongFalsely : Prop := ladderPointsRow.holds Try.pinned (OpenSpec.ofChange ladderPointsWrong)

/-- 'chicorylaw11.CombNil': WHATEVER THE INPUT: true; the input reads as it did. -/
def combNilSpec : ChangeSpec := { name := "combNil", fn := fun _ => fun
  | [d1, d2] => { results := [.lit (.bool true)], args := [d1, d2] }
  | _ => none }
def combNilRow : OpenClaim := { program := "ytifplgkfjpkppaa", sum := "40c74a47c6276ae3ae01c3da06630427ff20f73c195539ff38bf779de3ed3021", func := "chicory/chicorylaw11.CombNil", spec := "combNil", inPlace := ["math/bits.Add64", "math/bits.Sub64"], unfollowed := true, recurses := true, apart := false }
def CombNilSaid : Prop := combNilRow.holds Try.pinned (OpenSpec.ofChange combNilSpec)

/-- ITS FALSE NEIGHBOUR: 'it returns false'. Refute it at one input. -/
def combNilWrong : ChangeSpec := { name := "combNil", fn := fun _ => fun
  | [d1, d2] => { results := [.lit (.bool false)], args := [d1, d2] }
  | _ => none }
def CombNilWrongFalsely : Prop := combNilRow.holds Try.pinned (OpenSpec.ofChange combNilWrong)

/-- 'chicorylaw11.CombLooks': WHATEVER THE INPUT: true; the input reads as it did. -/
def combLooksSpec : ChangeSpec := { name := "combLooks", fn := fun _ => fun
  | [d1, d2] => { results := [.lit (.bool true)], args := [d1, d2] }
  | _ => none }
def combLooksRow : OpenClaim := { program := "ytifplgkfjpkppaa", sum := "40c74a47c6276ae3ae01c3da06630427ff20f73c195539ff38bf779de3ed3021", func := "chicory/chicorylaw11.CombLooks", spec := "combLooks", inPlace := ["math/bits.Add64", "math/bits.Sub64"], unfollowed := true, recurses := true, apart := false }
def CombLooksSaid : Prop := combLooksRow.holds Try.pinned (OpenSpec.ofChange combLooksSpec)

/-- ITS FALSE NEIGHBOUR: 'it returns false'. Refute it at one input. -/
def combLooksWrong : ChangeSpec := { name := "combLooks", fn := fun _ => fun
  | [d1, d2] => { results := [.lit (.bool false)], args := [d1, d2] }
  | _ => none }
def CombLooksWrongFalsely : Prop := combLooksRow.holds Try.pinned (OpenSpec.ofChange combLooksWrong)

/-- 'chicorylaw11.CombPowers': WHATEVER THE INPUT: true; the input reads as it did. -/
def combPowersSpec : ChangeSpec := { name := "combPowers", fn := fun _ => fun
  | [d1, d2, d3] => { results := [.lit (.bool true)], args := [d1, d2, d3] }
  | _ => none }
def combPowersRow : OpenClaim := { program := "ytifplgkfjpkppaa", sum := "40c74a47c6276ae3ae01c3da06630427ff20f73c195539ff38bf779de3ed3021", func := "chicory/chicorylaw11.CombPowers", spec := "combPowers", inPlace := ["math/bits.Sub64", "math/bits.Add64"], unfollowed := true, recurses := true, apart := false }
def CombPowersSaid : Prop := combPowersRow.holds Try.pinned (OpenSpec.ofChange combPowersSpec)

/-- ITS FALSE NEIGHBOUR: 'it returns false'. Refute it at one input. -/
def combPowersWrong : ChangeSpec := { name := "combPowers", fn := fun _ => fun
  | [d1, d2, d3] => { results := [.lit (.bool false)], args := [d1, d2, d3] }
  | _ => none }
def CombPowersWrongFalsely : Prop := combPowersRow.holds Try.pinned (OpenSpec.ofChange combPowersWrong)

/-- 'chicorylaw11.CombTables': WHATEVER THE INPUT: true; the input reads as it did. -/
def combTablesSpec : ChangeSpec := { name := "combTables", fn := fun _ => fun
  | [d1, d2, d3] => { results := [.lit (.bool true)], args := [d1, d2, d3] }
  | _ => none }
def combTablesRow : OpenClaim := { program := "ytifplgkfjpkppaa", sum := "40c74a47c6276ae3ae01c3da06630427ff20f73c195539ff38bf779de3ed3021", func := "chicory/chicorylaw11.CombTables", spec := "combTables", inPlace := ["math/bits.Sub64", "math/bits.Add64"], unfollowed := true, recurses := true, apart := false }
def CombTablesSaid : Prop := combTablesRow.holds Try.pinned (OpenSpec.ofChange combTablesSpec)

/-- ITS FALSE NEIGHBOUR: 'it returns false'. Refute it at one input. -/
def combTablesWrong : ChangeSpec := { name := "combTables", fn := fun _ => fun
  | [d1, d2, d3] => { results := [.lit (.bool false)], args := [d1, d2, d3] }
  | _ => none }
def CombTablesWrongFalsely : Prop := combTablesRow.holds Try.pinned (OpenSpec.ofChange combTablesWrong)

/-- 'chicorylaw12.MultSwaps': WHATEVER THE INPUT: true; the input reads as it did. -/
def multSwapsSpec : ChangeSpec := { name := "multSwaps", fn := fun _ => fun
  | [d1, d2] => { results := [.lit (.bool true)], args := [d1, d2] }
  | _ => none }
def multSwapsRow : OpenClaim := { program := "ytifplgkfjpkppaa", sum := "40c74a47c6276ae3ae01c3da06630427ff20f73c195539ff38bf779de3ed3021", func := "chicory/chicorylaw12.MultSwaps", spec := "multSwaps", inPlace := ["math/bits.Sub64", "math/bits.Add64"], unfollowed := true, recurses := true, apart := false }
def MultSwapsSaid : Prop := multSwapsRow.holds Try.pinned (OpenSpec.ofChange multSwapsSpec)

/-- ITS FALSE NEIGHBOUR: 'it returns false'. Refute it at one input. -/
def multSwapsWrong : ChangeSpec := { name := "multSwaps", fn := fun _ => fun
  | [d1, d2] => { results := [.lit (.bool false)], args := [d1, d2] }
  | _ => none }
def MultSwapsWrongFalsely : Prop := multSwapsRow.holds Try.pinned (OpenSpec.ofChange multSwapsWrong)

/-- 'chicorylaw12.MultTimes': WHATEVER THE INPUT: true; the input reads as it did. -/
def multTimesSpec : ChangeSpec := { name := "multTimes", fn := fun _ => fun
  | [d1, d2] => { results := [.lit (.bool true)], args := [d1, d2] }
  | _ => none }
def multTimesRow : OpenClaim := { program := "ytifplgkfjpkppaa", sum := "40c74a47c6276ae3ae01c3da06630427ff20f73c195539ff38bf779de3ed3021", func := "chicory/chicorylaw12.MultTimes", spec := "multTimes", inPlace := ["math/bits.Sub64", "math/bits.Add64"], unfollowed := true, recurses := true, apart := false }
def MultTimesSaid : Prop := multTimesRow.holds Try.pinned (OpenSpec.ofChange multTimesSpec)

/-- ITS FALSE NEIGHBOUR: 'it returns false'. Refute it at one input. -/
def multTimesWrong : ChangeSpec := { name := "multTimes", fn := fun _ => fun
  | [d1, d2] => { results := [.lit (.bool false)], args := [d1, d2] }
  | _ => none }
def MultTimesWrongFalsely : Prop := multTimesRow.holds Try.pinned (OpenSpec.ofChange multTimesWrong)

/-- 'chicorylaw11.CombAdds': WHATEVER THE INPUT: true; the input reads as it did. -/
def combAddsSpec : ChangeSpec := { name := "combAdds", fn := fun _ => fun
  | [d1, d2, d3] => { results := [.lit (.bool true)], args := [d1, d2, d3] }
  | _ => none }
def combAddsRow : OpenClaim := { program := "ytifplgkfjpkppaa", sum := "40c74a47c6276ae3ae01c3da06630427ff20f73c195539ff38bf779de3ed3021", func := "chicory/chicorylaw11.CombAdds", spec := "combAdds", inPlace := ["math/bits.Sub64", "math/bits.Add64"], unfollowed := true, recurses := true, apart := false }
def CombAddsSaid : Prop := combAddsRow.holds Try.pinned (OpenSpec.ofChange combAddsSpec)

/-- ITS FALSE NEIGHBOUR: 'it returns false'. Refute it at one input. -/
def combAddsWrong : ChangeSpec := { name := "combAdds", fn := fun _ => fun
  | [d1, d2, d3] => { results := [.lit (.bool false)], args := [d1, d2, d3] }
  | _ => none }
def CombAddsWrongFalsely : Prop := combAddsRow.holds Try.pinned (OpenSpec.ofChange combAddsWrong)

/-- 'chicorylaw12.MultParts': WHATEVER THE INPUT: true; the input reads as it did. -/
def multPartsSpec : ChangeSpec := { name := "multParts", fn := fun _ => fun
  | [d1, d2] => { results := [.lit (.bool true)], args := [d1, d2] }
  | _ => none }
def multPartsRow : OpenClaim := { program := "ytifplgkfjpkppaa", sum := "40c74a47c6276ae3ae01c3da06630427ff20f73c195539ff38bf779de3ed3021", func := "chicory/chicorylaw12.MultParts", spec := "multParts", inPlace := ["math/bits.Sub64", "math/bits.Add64"], unfollowed := true, recurses := true, apart := false }
def MultPartsSaid : Prop := multPartsRow.holds Try.pinned (OpenSpec.ofChange multPartsSpec)

/-- ITS FALSE NEIGHBOUR: 'it returns false'. Refute it at one input. -/
def multPartsWrong : ChangeSpec := { name := "multParts", fn := fun _ => fun
  | [d1, d2] => { results := [.lit (.bool false)], args := [d1, d2] }
  | _ => none }
def MultPartsWrongFalsely : Prop := multPartsRow.holds Try.pinned (OpenSpec.ofChange multPartsWrong)

/- THE SECOND FORM. 'bulk': how many values and letters a reading holds, each counted each time it is reached (what is shared counts as often as it is met; a slice's spare places count too). A statement '..UptoSaid' is the law's where the arguments, and the package variables that the reading takes, are together of bulk at most 1048576: NARROWER than '..Said'. Prove '..Said' where nothing that the law and all that it calls make is longer than what came in: it says more and counts as full. Else prove '..UptoSaid'. A law counts once. -/
mutual
def uptoBulk {H : Type} : DataW H → Nat
  | .lit (.string bytes) => bytes.length + 1
  | .lit _ => 1
  | .nil => 1
  | .ptr d => uptoBulk d + 1
  | .slice elems spare => uptoBulkAll elems + uptoBulkAll spare + 1
  | .agg parts => uptoBulkAll parts + 1
  | .iface _ d => uptoBulk d + 1
  | .map entries => uptoBulkEntries entries + 1
  | .held _ => 1
def uptoBulkAll {H : Type} : List (DataW H) → Nat
  | [] => 0
  | d :: r => uptoBulk d + uptoBulkAll r
def uptoBulkEntries {H : Type} : List (Lit × DataW H) → Nat
  | [] => 0
  | x :: r => uptoBulkEntry x + uptoBulkEntries r
def uptoBulkEntry {H : Type} : Lit × DataW H → Nat
  | (.string bytes, d) => bytes.length + uptoBulk d + 1
  | (_, d) => uptoBulk d + 1
 end
def uptoSmall : (H : Type) → List (DataW H) → Bool := fun _ ds => decide (uptoBulkAll ds ≤ 1048576)
def OpenSpec.upto (s : _root_.Go.ChangeSpec) : _root_.Go.OpenSpec := { _root_.Go.OpenSpec.ofChange s with cond := some uptoSmall }

/-- 'chicorylaw10.LadderShares', WHERE WHAT IT READS IS OF BULK AT MOST 1048576: true; the input reads as it did. -/
def ladderSharesUptoRow : OpenClaim := { program := "ytifplgkfjpkppaa", sum := "40c74a47c6276ae3ae01c3da06630427ff20f73c195539ff38bf779de3ed3021", func := "chicory/chicorylaw10.LadderShares", spec := "ladderShares", inPlace := ["math/bits.Add64", "math/bits.Sub64"], unfollowed := true, recurses := true, apart := false, narrowed := true }
def LadderSharesUptoSaid : Prop := ladderSharesUptoRow.holds Try.pinned (OpenSpec.upto ladderSharesSpec)

/-- 'chicorylaw10.LadderMeets', WHERE WHAT IT READS IS OF BULK AT MOST 1048576: true; the input reads as it did. -/
def ladderMeetsUptoRow : OpenClaim := { program := "ytifplgkfjpkppaa", sum := "40c74a47c6276ae3ae01c3da06630427ff20f73c195539ff38bf779de3ed3021", func := "chicory/chicorylaw10.LadderMeets", spec := "ladderMeets", inPlace := ["math/bits.Sub64", "math/bits.Add64"], unfollowed := true, recurses := true, apart := false, narrowed := true }
def LadderMeetsUptoSaid : Prop := ladderMeetsUptoRow.holds Try.pinned (OpenSpec.upto ladderMeetsSpec)

/-- 'chicorylaw11.CombSame', WHERE WHAT IT READS IS OF BULK AT MOST 1048576: true; the input reads as it did. -/
def combSameUptoRow : OpenClaim := { program := "ytifplgkfjpkppaa", sum := "40c74a47c6276ae3ae01c3da06630427ff20f73c195539ff38bf779de3ed3021", func := "chicory/chicorylaw11.CombSame", spec := "combSame", inPlace := ["math/bits.Add64", "math/bits.Sub64"], unfollowed := true, recurses := true, apart := false, narrowed := true }
def CombSameUptoSaid : Prop := combSameUptoRow.holds Try.pinned (OpenSpec.upto combSameSpec)

/-- 'chicorylaw05.RootSums', WHERE WHAT IT READS IS OF BULK AT MOST 1048576: true; the input reads as it did. -/
def rootSumsUptoRow : OpenClaim := { program := "ytifplgkfjpkppaa", sum := "40c74a47c6276ae3ae01c3da06630427ff20f73c195539ff38bf779de3ed3021", func := "chicory/chicorylaw05.RootSums", spec := "rootSums", inPlace := ["math/bits.Add64", "math/bits.Sub64"], unfollowed := true, recurses := true, apart := false, narrowed := true }
def RootSumsUptoSaid : Prop := rootSumsUptoRow.holds Try.pinned (OpenSpec.upto rootSumsSpec)

/-- 'chicorylaw09.CodingWrites', WHERE WHAT IT READS IS OF BULK AT MOST 1048576: true; the input reads as it did. -/
def codingWritesUptoRow : OpenClaim := { program := "ytifplgkfjpkppaa", sum := "40c74a47c6276ae3ae01c3da06630427ff20f73c195539ff38bf779de3ed3021", func := "chicory/chicorylaw09.CodingWrites", spec := "codingWrites", inPlace := ["math/bits.Add64", "math/bits.Sub64"], unfollowed := true, recurses := true, apart := false, narrowed := true }
def CodingWritesUptoSaid : Prop := codingWritesUptoRow.holds Try.pinned (OpenSpec.upto codingWritesSpec)

/-- 'chicorylaw09.CodingBack', WHERE WHAT IT READS IS OF BULK AT MOST 1048576: true; the input reads as it did. -/
def codingBackUptoRow : OpenClaim := { program := "ytifplgkfjpkppaa", sum := "40c74a47c6276ae3ae01c3da06630427ff20f73c195539ff38bf779de3ed3021", func := "chicory/chicorylaw09.CodingBack", spec := "codingBack", inPlace := ["math/bits.Add64", "math/bits.Sub64"], unfollowed := true, recurses := true, apart := false, narrowed := true }
def CodingBackUptoSaid : Prop := codingBackUptoRow.holds Try.pinned (OpenSpec.upto codingBackSpec)

/-- 'chicorylaw09.CodingSame', WHERE WHAT IT READS IS OF BULK AT MOST 1048576: true; the input reads as it did. -/
def codingSameUptoRow : OpenClaim := { program := "ytifplgkfjpkppaa", sum := "40c74a47c6276ae3ae01c3da06630427ff20f73c195539ff38bf779de3ed3021", func := "chicory/chicorylaw09.CodingSame", spec := "codingSame", inPlace := ["math/bits.Add64", "math/bits.Sub64"], unfollowed := true, recurses := true, apart := false, narrowed := true }
def CodingSameUptoSaid : Prop := codingSameUptoRow.holds Try.pinned (OpenSpec.upto codingSameSpec)

/-- 'chicorylaw13.TwistPoints', WHERE WHAT IT READS IS OF BULK AT MOST 1048576: true; the input reads as it did. -/
def twistPointsUptoRow : OpenClaim := { program := "ytifplgkfjpkppaa", sum := "40c74a47c6276ae3ae01c3da06630427ff20f73c195539ff38bf779de3ed3021", func := "chicory/chicorylaw13.TwistPoints", spec := "twistPoints", inPlace := ["math/bits.Add64", "math/bits.Sub64"], unfollowed := true, recurses := true, apart := false, narrowed := true }
def TwistPointsUptoSaid : Prop := twistPointsUptoRow.holds Try.pinned (OpenSpec.upto twistPointsSpec)

/-- 'chicorylaw13.TwistAdds', WHERE WHAT IT READS IS OF BULK AT MOST 1048576: true; the input reads as it did. -/
def twistAddsUptoRow : OpenClaim := { program := "ytifplgkfjpkppaa", sum := "40c74a47c6276ae3ae01c3da06630427ff20f73c195539ff38bf779de3ed3021", func := "chicory/chicorylaw13.TwistAdds", spec := "twistAdds", inPlace := ["math/bits.Sub64", "math/bits.Add64"], unfollowed := true, recurses := true, apart := false, narrowed := true }
def TwistAddsUptoSaid : Prop := twistAddsUptoRow.holds Try.pinned (OpenSpec.upto twistAddsSpec)

/-- 'chicorylaw13.TwistHomes', WHERE WHAT IT READS IS OF BULK AT MOST 1048576: true; the input reads as it did. -/
def twistHomesUptoRow : OpenClaim := { program := "ytifplgkfjpkppaa", sum := "40c74a47c6276ae3ae01c3da06630427ff20f73c195539ff38bf779de3ed3021", func := "chicory/chicorylaw13.TwistHomes", spec := "twistHomes", inPlace := ["math/bits.Sub64", "math/bits.Add64"], unfollowed := true, recurses := true, apart := false, narrowed := true }
def TwistHomesUptoSaid : Prop := twistHomesUptoRow.holds Try.pinned (OpenSpec.upto twistHomesSpec)

/-- 'chicorylaw13.TwistFours', WHERE WHAT IT READS IS OF BULK AT MOST 1048576: true; the input reads as it did. -/
def twistFoursUptoRow : OpenClaim := { program := "ytifplgkfjpkppaa", sum := "40c74a47c6276ae3ae01c3da06630427ff20f73c195539ff38bf779de3ed3021", func := "chicory/chicorylaw13.TwistFours", spec := "twistFours", inPlace := ["math/bits.Sub64", "math/bits.Add64"], unfollowed := true, recurses := true, apart := false, narrowed := true }
def TwistFoursUptoSaid : Prop := twistFoursUptoRow.holds Try.pinned (OpenSpec.upto twistFoursSpec)

/-- 'chicorylaw10.LadderPoints', WHERE WHAT IT READS IS OF BULK AT MOST 1048576: true; the input reads as it did. -/
def ladderPointsUptoRow : OpenClaim := { program := "ytifplgkfjpkppaa", sum := "40c74a47c6276ae3ae01c3da06630427ff20f73c195539ff38bf779de3ed3021", func := "chicory/chicorylaw10.LadderPoints", spec := "ladderPoints", inPlace := ["math/bits.Add64", "math/bits.Sub64"], unfollowed := true, recurses := true, apart := false, narrowed := true }
def LadderPointsUptoSaid : Prop := ladderPointsUptoRow.holds Try.pinned (OpenSpec.upto ladderPointsSpec)

/-- 'chicorylaw11.CombNil', WHERE WHAT IT READS IS OF BULK AT MOST 1048576: true; the input reads as it did. -/
def combNilUptoRow : OpenClaim := { program := "ytifplgkfjpkppaa", sum := "40c74a47c6276ae3ae01c3da06630427ff20f73c195539ff38bf779de3ed3021", func := "chicory/chicorylaw11.CombNil", spec := "combNil", inPlace := ["math/bits.Add64", "math/bits.Sub64"], unfollowed := true, recurses := true, apart := false, narrowed := true }
def CombNilUptoSaid : Prop := combNilUptoRow.holds Try.pinned (OpenSpec.upto combNilSpec)

/-- 'chicorylaw11.CombLooks', WHERE WHAT IT READS IS OF BULK AT MOST 1048576: true; the input reads as it did. -/
def combLooksUptoRow : OpenClaim := { program := "ytifplgkfjpkppaa", sum := "40c74a47c6276ae3ae01c3da06630427ff20f73c195539ff38bf779de3ed3021", func := "chicory/chicorylaw11.CombLooks", spec := "combLooks", inPlace := ["math/bits.Add64", "math/bits.Sub64"], unfollowed := true, recurses := true, apart := false, narrowed := true }
def CombLooksUptoSaid : Prop := combLooksUptoRow.holds Try.pinned (OpenSpec.upto combLooksSpec)

/-- 'chicorylaw11.CombPowers', WHERE WHAT IT READS IS OF BULK AT MOST 1048576: true; the input reads as it did. -/
def combPowersUptoRow : OpenClaim := { program := "ytifplgkfjpkppaa", sum := "40c74a47c6276ae3ae01c3da06630427ff20f73c195539ff38bf779de3ed3021", func := "chicory/chicorylaw11.CombPowers", spec := "combPowers", inPlace := ["math/bits.Sub64", "math/bits.Add64"], unfollowed := true, recurses := true, apart := false, narrowed := true }
def CombPowersUptoSaid : Prop := combPowersUptoRow.holds Try.pinned (OpenSpec.upto combPowersSpec)

/-- 'chicorylaw11.CombTables', WHERE WHAT IT READS IS OF BULK AT MOST 1048576: true; the input reads as it did. -/
def combTablesUptoRow : OpenClaim := { program := "ytifplgkfjpkppaa", sum := "40c74a47c6276ae3ae01c3da06630427ff20f73c195539ff38bf779de3ed3021", func := "chicory/chicorylaw11.CombTables", spec := "combTables", inPlace := ["math/bits.Sub64", "math/bits.Add64"], unfollowed := true, recurses := true, apart := false, narrowed := true }
def CombTablesUptoSaid : Prop := combTablesUptoRow.holds Try.pinned (OpenSpec.upto combTablesSpec)

/-- 'chicorylaw12.MultSwaps', WHERE WHAT IT READS IS OF BULK AT MOST 1048576: true; the input reads as it did. -/
def multSwapsUptoRow : OpenClaim := { program := "ytifplgkfjpkppaa", sum := "40c74a47c6276ae3ae01c3da06630427ff20f73c195539ff38bf779de3ed3021", func := "chicory/chicorylaw12.MultSwaps", spec := "multSwaps", inPlace := ["math/bits.Sub64", "math/bits.Add64"], unfollowed := true, recurses := true, apart := false, narrowed := true }
def MultSwapsUptoSaid : Prop := multSwapsUptoRow.holds Try.pinned (OpenSpec.upto multSwapsSpec)

/-- 'chicorylaw12.MultTimes', WHERE WHAT IT READS IS OF BULK AT MOST 1048576: true; the input reads as it did. -/
def multTimesUptoRow : OpenClaim := { program := "ytifplgkfjpkppaa", sum := "40c74a47c6276ae3ae01c3da06630427ff20f73c195539ff38bf779de3ed3021", func := "chicory/chicorylaw12.MultTimes", spec := "multTimes", inPlace := ["math/bits.Sub64", "math/bits.Add64"], unfollowed := true, recurses := true, apart := false, narrowed := true }
def MultTimesUptoSaid : Prop := multTimesUptoRow.holds Try.pinned (OpenSpec.upto multTimesSpec)

/-- 'chicorylaw11.CombAdds', WHERE WHAT IT READS IS OF BULK AT MOST 1048576: true; the input reads as it did. -/
def combAddsUptoRow : OpenClaim := { program := "ytifplgkfjpkppaa", sum := "40c74a47c6276ae3ae01c3da06630427ff20f73c195539ff38bf779de3ed3021", func := "chicory/chicorylaw11.CombAdds", spec := "combAdds", inPlace := ["math/bits.Sub64", "math/bits.Add64"], unfollowed := true, recurses := true, apart := false, narrowed := true }
def CombAddsUptoSaid : Prop := combAddsUptoRow.holds Try.pinned (OpenSpec.upto combAddsSpec)

/-- 'chicorylaw12.MultParts', WHERE WHAT IT READS IS OF BULK AT MOST 1048576: true; the input reads as it did. -/
def multPartsUptoRow : OpenClaim := { program := "ytifplgkfjpkppaa", sum := "40c74a47c6276ae3ae01c3da06630427ff20f73c195539ff38bf779de3ed3021", func := "chicory/chicorylaw12.MultParts", spec := "multParts", inPlace := ["math/bits.Sub64", "math/bits.Add64"], unfollowed := true, recurses := true, apart := false, narrowed := true }
def MultPartsUptoSaid : Prop := multPartsUptoRow.holds Try.pinned (OpenSpec.upto multPartsSpec)

end Rows
end Go.Proofs.Ytifplgkfjpkppaa
