/-
  No cell of these rows narrows 'for every input' (looked for: loops, veiled, ifaces, maps, wideKeys, modest, calm, conditions, laid).
  DERIVED. THE GIVEN ROWS OF THIS SEAT. 32 by the template 'for every input the law returns true; each argument reads behind the call as it read before'; 0 by the template 'total and deterministic' (their statements: YtcjicfpdmegckaaTotals.lean).
  GIVEN WITH THE SEED: the statements are not yours to turn. If you find one false, say at which input.
  Laid BY PROGRAM, IN A SANDBOX (cutbox-rows.mjs): the forced cells as the released guide's own fill.sh prints them over the translation ca8a09986c9a22f0… (all of the seat's roots in one cut). By AI agents, Wed Nov 11 2026. No macro, syntax, notation, axiom, sorry.
-/
import Derived.Test.YtcjicfpdmegckaaChecked
import GoSem.Claim
import GoSem.ClaimJoined
import GoSem.ClaimMapViews
import Derived.JoinedTies
import Derived.KernelRfl
namespace Go.Proofs.Ytcjicfpdmegckaa
/- THE CELL 'sum', in the pinned program and in every row, IS THE sha256 OF THE DUMP (.gsa) THAT YtcjicfpdmegckaaProg.lean LOADS. Nothing in Lean hashes anything: it is a label: what it is worth is what the hold of that sum in a sandbox is worth. -/
noncomputable def Try.pinned : Pinned := { name := "ytcjicfpdmegckaa", sum := "ca8a09986c9a22f024ad8a1db51ccda904e43e6aaec5ab1cb9a7631091dee871", checked := Try.checked }
namespace Rows
def none {H : Type} : Left H := { results := [], args := [] }

/-- 'scullerlaw01.WordAdds': WHATEVER THE INPUT: true; the input reads as it did. -/
def wordAddsSpec : ChangeSpec := { name := "wordAdds", fn := fun _ => fun
  | [d1, d2, d3, d4, d5, d6] => { results := [.lit (.bool true)], args := [d1, d2, d3, d4, d5, d6] }
  | _ => none }
def wordAddsRow : OpenClaim := { program := "ytcjicfpdmegckaa", sum := "ca8a09986c9a22f024ad8a1db51ccda904e43e6aaec5ab1cb9a7631091dee871", func := "sculler/scullerlaw01.WordAdds", spec := "wordAdds", apart := false }
def WordAddsSaid : Prop := wordAddsRow.holds Try.pinned (OpenSpec.ofChange wordAddsSpec)

/-- ITS FALSE NEIGHBOUR: 'it returns false'. Refute it at one input. -/
def wordAddsWrong : ChangeSpec := { name := "wordAdds", fn := fun _ => fun
  | [d1, d2, d3, d4, d5, d6] => { results := [.lit (.bool false)], args := [d1, d2, d3, d4, d5, d6] }
  | _ => none }
def WordAddsWrongFalsely : Prop := wordAddsRow.holds Try.pinned (OpenSpec.ofChange wordAddsWrong)

/-- 'scullerlaw02.CrcSums': WHATEVER THE INPUT: true; the input reads as it did. -/
def crcSumsSpec : ChangeSpec := { name := "crcSums", fn := fun _ => fun
  | [d1, d2, d3] => { results := [.lit (.bool true)], args := [d1, d2, d3] }
  | _ => none }
def crcSumsRow : OpenClaim := { program := "ytcjicfpdmegckaa", sum := "ca8a09986c9a22f024ad8a1db51ccda904e43e6aaec5ab1cb9a7631091dee871", func := "sculler/scullerlaw02.CrcSums", spec := "crcSums", unfollowed := true, recurses := true, apart := false }
def CrcSumsSaid : Prop := crcSumsRow.holds Try.pinned (OpenSpec.ofChange crcSumsSpec)

/-- ITS FALSE NEIGHBOUR: 'it returns false'. Refute it at one input. -/
def crcSumsWrong : ChangeSpec := { name := "crcSums", fn := fun _ => fun
  | [d1, d2, d3] => { results := [.lit (.bool false)], args := [d1, d2, d3] }
  | _ => none }
def CrcSumsWrongFalsely : Prop := crcSumsRow.holds Try.pinned (OpenSpec.ofChange crcSumsWrong)

/-- 'scullerlaw02.CrcSplit': WHATEVER THE INPUT: true; the input reads as it did. -/
def crcSplitSpec : ChangeSpec := { name := "crcSplit", fn := fun _ => fun
  | [d1, d2, d3] => { results := [.lit (.bool true)], args := [d1, d2, d3] }
  | _ => none }
def crcSplitRow : OpenClaim := { program := "ytcjicfpdmegckaa", sum := "ca8a09986c9a22f024ad8a1db51ccda904e43e6aaec5ab1cb9a7631091dee871", func := "sculler/scullerlaw02.CrcSplit", spec := "crcSplit", unfollowed := true, recurses := true, apart := false }
def CrcSplitSaid : Prop := crcSplitRow.holds Try.pinned (OpenSpec.ofChange crcSplitSpec)

/-- ITS FALSE NEIGHBOUR: 'it returns false'. Refute it at one input. -/
def crcSplitWrong : ChangeSpec := { name := "crcSplit", fn := fun _ => fun
  | [d1, d2, d3] => { results := [.lit (.bool false)], args := [d1, d2, d3] }
  | _ => none }
def CrcSplitWrongFalsely : Prop := crcSplitRow.holds Try.pinned (OpenSpec.ofChange crcSplitWrong)

/-- 'scullerlaw15.KeepLasts': WHATEVER THE INPUT: true; the input reads as it did. -/
def keepLastsSpec : ChangeSpec := { name := "keepLasts", fn := fun _ => fun
  | [d1, d2, d3] => { results := [.lit (.bool true)], args := [d1, d2, d3] }
  | _ => none }
def keepLastsRow : OpenClaim := { program := "ytcjicfpdmegckaa", sum := "ca8a09986c9a22f024ad8a1db51ccda904e43e6aaec5ab1cb9a7631091dee871", func := "sculler/scullerlaw15.KeepLasts", spec := "keepLasts", inPlace := ["maps.clone"], unfollowed := true, recurses := true, apart := false }
def KeepLastsSaid : Prop := keepLastsRow.holds Try.pinned (OpenSpec.ofChange keepLastsSpec)

/-- ITS FALSE NEIGHBOUR: 'it returns false'. Refute it at one input. -/
def keepLastsWrong : ChangeSpec := { name := "keepLasts", fn := fun _ => fun
  | [d1, d2, d3] => { results := [.lit (.bool false)], args := [d1, d2, d3] }
  | _ => none }
def KeepLastsWrongFalsely : Prop := keepLastsRow.holds Try.pinned (OpenSpec.ofChange keepLastsWrong)

/-- 'scullerlaw07.ArenaPlaces': WHATEVER THE INPUT: true; the input reads as it did. -/
def arenaPlacesSpec : ChangeSpec := { name := "arenaPlaces", fn := fun _ => fun
  | [d1, d2, d3, d4, d5, d6] => { results := [.lit (.bool true)], args := [d1, d2, d3, d4, d5, d6] }
  | _ => none }
def arenaPlacesRow : OpenClaim := { program := "ytcjicfpdmegckaa", sum := "ca8a09986c9a22f024ad8a1db51ccda904e43e6aaec5ab1cb9a7631091dee871", func := "sculler/scullerlaw07.ArenaPlaces", spec := "arenaPlaces", unfollowed := true, recurses := true, apart := false }
def ArenaPlacesSaid : Prop := arenaPlacesRow.holds Try.pinned (OpenSpec.ofChange arenaPlacesSpec)

/-- ITS FALSE NEIGHBOUR: 'it returns false'. Refute it at one input. -/
def arenaPlacesWrong : ChangeSpec := { name := "arenaPlaces", fn := fun _ => fun
  | [d1, d2, d3, d4, d5, d6] => { results := [.lit (.bool false)], args := [d1, d2, d3, d4, d5, d6] }
  | _ => none }
def ArenaPlacesWrongFalsely : Prop := arenaPlacesRow.holds Try.pinned (OpenSpec.ofChange arenaPlacesWrong)

/-- 'scullerlaw07.ArenaWithin': WHATEVER THE INPUT: true; the input reads as it did. -/
def arenaWithinSpec : ChangeSpec := { name := "arenaWithin", fn := fun _ => fun
  | [d1, d2, d3, d4, d5] => { results := [.lit (.bool true)], args := [d1, d2, d3, d4, d5] }
  | _ => none }
def arenaWithinRow : OpenClaim := { program := "ytcjicfpdmegckaa", sum := "ca8a09986c9a22f024ad8a1db51ccda904e43e6aaec5ab1cb9a7631091dee871", func := "sculler/scullerlaw07.ArenaWithin", spec := "arenaWithin", unfollowed := true, recurses := true, apart := false }
def ArenaWithinSaid : Prop := arenaWithinRow.holds Try.pinned (OpenSpec.ofChange arenaWithinSpec)

/-- ITS FALSE NEIGHBOUR: 'it returns false'. Refute it at one input. -/
def arenaWithinWrong : ChangeSpec := { name := "arenaWithin", fn := fun _ => fun
  | [d1, d2, d3, d4, d5] => { results := [.lit (.bool false)], args := [d1, d2, d3, d4, d5] }
  | _ => none }
def ArenaWithinWrongFalsely : Prop := arenaWithinRow.holds Try.pinned (OpenSpec.ofChange arenaWithinWrong)

/-- 'scullerlaw15.KeepOrder': WHATEVER THE INPUT: true; the input reads as it did. -/
def keepOrderSpec : ChangeSpec := { name := "keepOrder", fn := fun _ => fun
  | [d1, d2, d3, d4, d5, d6] => { results := [.lit (.bool true)], args := [d1, d2, d3, d4, d5, d6] }
  | _ => none }
def keepOrderRow : OpenClaim := { program := "ytcjicfpdmegckaa", sum := "ca8a09986c9a22f024ad8a1db51ccda904e43e6aaec5ab1cb9a7631091dee871", func := "sculler/scullerlaw15.KeepOrder", spec := "keepOrder", inPlace := ["maps.clone"], unfollowed := true, recurses := true, apart := false }
def KeepOrderSaid : Prop := keepOrderRow.holds Try.pinned (OpenSpec.ofChange keepOrderSpec)

/-- ITS FALSE NEIGHBOUR: 'it returns false'. Refute it at one input. -/
def keepOrderWrong : ChangeSpec := { name := "keepOrder", fn := fun _ => fun
  | [d1, d2, d3, d4, d5, d6] => { results := [.lit (.bool false)], args := [d1, d2, d3, d4, d5, d6] }
  | _ => none }
def KeepOrderWrongFalsely : Prop := keepOrderRow.holds Try.pinned (OpenSpec.ofChange keepOrderWrong)

/-- 'scullerlaw15.KeepCopy': WHATEVER THE INPUT: true; the input reads as it did. -/
def keepCopySpec : ChangeSpec := { name := "keepCopy", fn := fun _ => fun
  | [d1, d2, d3] => { results := [.lit (.bool true)], args := [d1, d2, d3] }
  | _ => none }
def keepCopyRow : OpenClaim := { program := "ytcjicfpdmegckaa", sum := "ca8a09986c9a22f024ad8a1db51ccda904e43e6aaec5ab1cb9a7631091dee871", func := "sculler/scullerlaw15.KeepCopy", spec := "keepCopy", inPlace := ["maps.clone"], unfollowed := true, recurses := true, apart := false }
def KeepCopySaid : Prop := keepCopyRow.holds Try.pinned (OpenSpec.ofChange keepCopySpec)

/-- ITS FALSE NEIGHBOUR: 'it returns false'. Refute it at one input. -/
def keepCopyWrong : ChangeSpec := { name := "keepCopy", fn := fun _ => fun
  | [d1, d2, d3] => { results := [.lit (.bool false)], args := [d1, d2, d3] }
  | _ => none }
def KeepCopyWrongFalsely : Prop := keepCopyRow.holds Try.pinned (OpenSpec.ofChange keepCopyWrong)

/-- 'scullerlaw07.ArenaAsks': WHATEVER THE INPUT: true; the input reads as it did. -/
def arenaAsksSpec : ChangeSpec := { name := "arenaAsks", fn := fun _ => fun
  | [d1, d2, d3, d4, d5, d6] => { results := [.lit (.bool true)], args := [d1, d2, d3, d4, d5, d6] }
  | _ => none }
def arenaAsksRow : OpenClaim := { program := "ytcjicfpdmegckaa", sum := "ca8a09986c9a22f024ad8a1db51ccda904e43e6aaec5ab1cb9a7631091dee871", func := "sculler/scullerlaw07.ArenaAsks", spec := "arenaAsks", unfollowed := true, recurses := true, apart := false }
def ArenaAsksSaid : Prop := arenaAsksRow.holds Try.pinned (OpenSpec.ofChange arenaAsksSpec)

/-- ITS FALSE NEIGHBOUR: 'it returns false'. Refute it at one input. -/
def arenaAsksWrong : ChangeSpec := { name := "arenaAsks", fn := fun _ => fun
  | [d1, d2, d3, d4, d5, d6] => { results := [.lit (.bool false)], args := [d1, d2, d3, d4, d5, d6] }
  | _ => none }
def ArenaAsksWrongFalsely : Prop := arenaAsksRow.holds Try.pinned (OpenSpec.ofChange arenaAsksWrong)

/-- 'scullerlaw07.ArenaCuts': WHATEVER THE INPUT: true; the input reads as it did. -/
def arenaCutsSpec : ChangeSpec := { name := "arenaCuts", fn := fun _ => fun
  | [d1, d2, d3, d4] => { results := [.lit (.bool true)], args := [d1, d2, d3, d4] }
  | _ => none }
def arenaCutsRow : OpenClaim := { program := "ytcjicfpdmegckaa", sum := "ca8a09986c9a22f024ad8a1db51ccda904e43e6aaec5ab1cb9a7631091dee871", func := "sculler/scullerlaw07.ArenaCuts", spec := "arenaCuts", unfollowed := true, recurses := true, apart := false }
def ArenaCutsSaid : Prop := arenaCutsRow.holds Try.pinned (OpenSpec.ofChange arenaCutsSpec)

/-- ITS FALSE NEIGHBOUR: 'it returns false'. Refute it at one input. -/
def arenaCutsWrong : ChangeSpec := { name := "arenaCuts", fn := fun _ => fun
  | [d1, d2, d3, d4] => { results := [.lit (.bool false)], args := [d1, d2, d3, d4] }
  | _ => none }
def ArenaCutsWrongFalsely : Prop := arenaCutsRow.holds Try.pinned (OpenSpec.ofChange arenaCutsWrong)

/-- 'scullerlaw07.ArenaSpoil': WHATEVER THE INPUT: true; the input reads as it did. -/
def arenaSpoilSpec : ChangeSpec := { name := "arenaSpoil", fn := fun _ => fun
  | [d1, d2] => { results := [.lit (.bool true)], args := [d1, d2] }
  | _ => none }
def arenaSpoilRow : OpenClaim := { program := "ytcjicfpdmegckaa", sum := "ca8a09986c9a22f024ad8a1db51ccda904e43e6aaec5ab1cb9a7631091dee871", func := "sculler/scullerlaw07.ArenaSpoil", spec := "arenaSpoil", unfollowed := true, recurses := true, apart := false }
def ArenaSpoilSaid : Prop := arenaSpoilRow.holds Try.pinned (OpenSpec.ofChange arenaSpoilSpec)

/-- ITS FALSE NEIGHBOUR: 'it returns false'. Refute it at one input. -/
def arenaSpoilWrong : ChangeSpec := { name := "arenaSpoil", fn := fun _ => fun
  | [d1, d2] => { results := [.lit (.bool false)], args := [d1, d2] }
  | _ => none }
def ArenaSpoilWrongFalsely : Prop := arenaSpoilRow.holds Try.pinned (OpenSpec.ofChange arenaSpoilWrong)

/-- 'scullerlaw07.ArenaMost': WHATEVER THE INPUT: true; the input reads as it did. -/
def arenaMostSpec : ChangeSpec := { name := "arenaMost", fn := fun _ => fun
  | [d1, d2] => { results := [.lit (.bool true)], args := [d1, d2] }
  | _ => none }
def arenaMostRow : OpenClaim := { program := "ytcjicfpdmegckaa", sum := "ca8a09986c9a22f024ad8a1db51ccda904e43e6aaec5ab1cb9a7631091dee871", func := "sculler/scullerlaw07.ArenaMost", spec := "arenaMost", unfollowed := true, recurses := true, apart := false }
def ArenaMostSaid : Prop := arenaMostRow.holds Try.pinned (OpenSpec.ofChange arenaMostSpec)

/-- ITS FALSE NEIGHBOUR: 'it returns false'. Refute it at one input. -/
def arenaMostWrong : ChangeSpec := { name := "arenaMost", fn := fun _ => fun
  | [d1, d2] => { results := [.lit (.bool false)], args := [d1, d2] }
  | _ => none }
def ArenaMostWrongFalsely : Prop := arenaMostRow.holds Try.pinned (OpenSpec.ofChange arenaMostWrong)

/-- 'scullerlaw12.ManiTells': WHATEVER THE INPUT: true; the input reads as it did. -/
def maniTellsSpec : ChangeSpec := { name := "maniTells", fn := fun _ => fun
  | [d1, d2, d3, d4, d5, d6, d7, d8] => { results := [.lit (.bool true)], args := [d1, d2, d3, d4, d5, d6, d7, d8] }
  | _ => none }
def maniTellsRow : OpenClaim := { program := "ytcjicfpdmegckaa", sum := "ca8a09986c9a22f024ad8a1db51ccda904e43e6aaec5ab1cb9a7631091dee871", func := "sculler/scullerlaw12.ManiTells", spec := "maniTells", unfollowed := true, recurses := true, apart := false }
def ManiTellsSaid : Prop := maniTellsRow.holds Try.pinned (OpenSpec.ofChange maniTellsSpec)

/-- ITS FALSE NEIGHBOUR: 'it returns false'. Refute it at one input. -/
def maniTellsWrong : ChangeSpec := { name := "maniTells", fn := fun _ => fun
  | [d1, d2, d3, d4, d5, d6, d7, d8] => { results := [.lit (.bool false)], args := [d1, d2, d3, d4, d5, d6, d7, d8] }
  | _ => none }
def ManiTellsWrongFalsely : Prop := maniTellsRow.holds Try.pinned (OpenSpec.ofChange maniTellsWrong)

/-- 'scullerlaw12.ManiMost': WHATEVER THE INPUT: true; the input reads as it did. -/
def maniMostSpec : ChangeSpec := { name := "maniMost", fn := fun _ => fun
  | [d1, d2] => { results := [.lit (.bool true)], args := [d1, d2] }
  | _ => none }
def maniMostRow : OpenClaim := { program := "ytcjicfpdmegckaa", sum := "ca8a09986c9a22f024ad8a1db51ccda904e43e6aaec5ab1cb9a7631091dee871", func := "sculler/scullerlaw12.ManiMost", spec := "maniMost", unfollowed := true, recurses := true, apart := false }
def ManiMostSaid : Prop := maniMostRow.holds Try.pinned (OpenSpec.ofChange maniMostSpec)

/-- ITS FALSE NEIGHBOUR: 'it returns false'. Refute it at one input. -/
def maniMostWrong : ChangeSpec := { name := "maniMost", fn := fun _ => fun
  | [d1, d2] => { results := [.lit (.bool false)], args := [d1, d2] }
  | _ => none }
def ManiMostWrongFalsely : Prop := maniMostRow.holds Try.pinned (OpenSpec.ofChange maniMostWrong)

/-- 'scullerlaw13.PackBack': WHATEVER THE INPUT: true; the input reads as it did. -/
def packBackSpec : ChangeSpec := { name := "packBack", fn := fun _ => fun
  | [d1, d2, d3, d4, d5, d6, d7, d8] => { results := [.lit (.bool true)], args := [d1, d2, d3, d4, d5, d6, d7, d8] }
  | _ => none }
def packBackRow : OpenClaim := { program := "ytcjicfpdmegckaa", sum := "ca8a09986c9a22f024ad8a1db51ccda904e43e6aaec5ab1cb9a7631091dee871", func := "sculler/scullerlaw13.PackBack", spec := "packBack", unfollowed := true, recurses := true, apart := false }
def PackBackSaid : Prop := packBackRow.holds Try.pinned (OpenSpec.ofChange packBackSpec)

/-- ITS FALSE NEIGHBOUR: 'it returns false'. Refute it at one input. -/
def packBackWrong : ChangeSpec := { name := "packBack", fn := fun _ => fun
  | [d1, d2, d3, d4, d5, d6, d7, d8] => { results := [.lit (.bool false)], args := [d1, d2, d3, d4, d5, d6, d7, d8] }
  | _ => none }
def PackBackWrongFalsely : Prop := packBackRow.holds Try.pinned (OpenSpec.ofChange packBackWrong)

/-- 'scullerlaw13.PackCut': WHATEVER THE INPUT: true; the input reads as it did. -/
def packCutSpec : ChangeSpec := { name := "packCut", fn := fun _ => fun
  | [d1, d2, d3, d4, d5, d6] => { results := [.lit (.bool true)], args := [d1, d2, d3, d4, d5, d6] }
  | _ => none }
def packCutRow : OpenClaim := { program := "ytcjicfpdmegckaa", sum := "ca8a09986c9a22f024ad8a1db51ccda904e43e6aaec5ab1cb9a7631091dee871", func := "sculler/scullerlaw13.PackCut", spec := "packCut", unfollowed := true, recurses := true, apart := false }
def PackCutSaid : Prop := packCutRow.holds Try.pinned (OpenSpec.ofChange packCutSpec)

/-- ITS FALSE NEIGHBOUR: 'it returns false'. Refute it at one input. -/
def packCutWrong : ChangeSpec := { name := "packCut", fn := fun _ => fun
  | [d1, d2, d3, d4, d5, d6] => { results := [.lit (.bool false)], args := [d1, d2, d3, d4, d5, d6] }
  | _ => none }
def PackCutWrongFalsely : Prop := packCutRow.holds Try.pinned (OpenSpec.ofChange packCutWrong)

/-- 'scullerlaw13.PackOnce': WHATEVER THE INPUT: true; the input reads as it did. -/
def packOnceSpec : ChangeSpec := { name := "packOnce", fn := fun _ => fun
  | [d1, d2] => { results := [.lit (.bool true)], args := [d1, d2] }
  | _ => none }
def packOnceRow : OpenClaim := { program := "ytcjicfpdmegckaa", sum := "ca8a09986c9a22f024ad8a1db51ccda904e43e6aaec5ab1cb9a7631091dee871", func := "sculler/scullerlaw13.PackOnce", spec := "packOnce", unfollowed := true, recurses := true, apart := false }
def PackOnceSaid : Prop := packOnceRow.holds Try.pinned (OpenSpec.ofChange packOnceSpec)

/-- ITS FALSE NEIGHBOUR: 'it returns false'. Refute it at one input. -/
def packOnceWrong : ChangeSpec := { name := "packOnce", fn := fun _ => fun
  | [d1, d2] => { results := [.lit (.bool false)], args := [d1, d2] }
  | _ => none }
def PackOnceWrongFalsely : Prop := packOnceRow.holds Try.pinned (OpenSpec.ofChange packOnceWrong)

/-- 'scullerlaw13.PackFields': WHATEVER THE INPUT: true; the input reads as it did. -/
def packFieldsSpec : ChangeSpec := { name := "packFields", fn := fun _ => fun
  | [d1, d2, d3, d4] => { results := [.lit (.bool true)], args := [d1, d2, d3, d4] }
  | _ => none }
def packFieldsRow : OpenClaim := { program := "ytcjicfpdmegckaa", sum := "ca8a09986c9a22f024ad8a1db51ccda904e43e6aaec5ab1cb9a7631091dee871", func := "sculler/scullerlaw13.PackFields", spec := "packFields", unfollowed := true, recurses := true, apart := false }
def PackFieldsSaid : Prop := packFieldsRow.holds Try.pinned (OpenSpec.ofChange packFieldsSpec)

/-- ITS FALSE NEIGHBOUR: 'it returns false'. Refute it at one input. -/
def packFieldsWrong : ChangeSpec := { name := "packFields", fn := fun _ => fun
  | [d1, d2, d3, d4] => { results := [.lit (.bool false)], args := [d1, d2, d3, d4] }
  | _ => none }
def PackFieldsWrongFalsely : Prop := packFieldsRow.holds Try.pinned (OpenSpec.ofChange packFieldsWrong)

/-- 'scullerlaw07.ArenaBack': WHATEVER THE INPUT: true; the input reads as it did. -/
def arenaBackSpec : ChangeSpec := { name := "arenaBack", fn := fun _ => fun
  | [d1, d2, d3, d4] => { results := [.lit (.bool true)], args := [d1, d2, d3, d4] }
  | _ => none }
def arenaBackRow : OpenClaim := { program := "ytcjicfpdmegckaa", sum := "ca8a09986c9a22f024ad8a1db51ccda904e43e6aaec5ab1cb9a7631091dee871", func := "sculler/scullerlaw07.ArenaBack", spec := "arenaBack", unfollowed := true, recurses := true, apart := false }
def ArenaBackSaid : Prop := arenaBackRow.holds Try.pinned (OpenSpec.ofChange arenaBackSpec)

/-- ITS FALSE NEIGHBOUR: 'it returns false'. Refute it at one input. -/
def arenaBackWrong : ChangeSpec := { name := "arenaBack", fn := fun _ => fun
  | [d1, d2, d3, d4] => { results := [.lit (.bool false)], args := [d1, d2, d3, d4] }
  | _ => none }
def ArenaBackWrongFalsely : Prop := arenaBackRow.holds Try.pinned (OpenSpec.ofChange arenaBackWrong)

/-- 'scullerlaw13.PackCodes': WHATEVER THE INPUT: true; the input reads as it did. -/
def packCodesSpec : ChangeSpec := { name := "packCodes", fn := fun _ => fun
  | [d1, d2, d3, d4, d5, d6, d7, d8, d9, d10] => { results := [.lit (.bool true)], args := [d1, d2, d3, d4, d5, d6, d7, d8, d9, d10] }
  | _ => none }
def packCodesRow : OpenClaim := { program := "ytcjicfpdmegckaa", sum := "ca8a09986c9a22f024ad8a1db51ccda904e43e6aaec5ab1cb9a7631091dee871", func := "sculler/scullerlaw13.PackCodes", spec := "packCodes", unfollowed := true, recurses := true, apart := false }
def PackCodesSaid : Prop := packCodesRow.holds Try.pinned (OpenSpec.ofChange packCodesSpec)

/-- ITS FALSE NEIGHBOUR: 'it returns false'. Refute it at one input. -/
def packCodesWrong : ChangeSpec := { name := "packCodes", fn := fun _ => fun
  | [d1, d2, d3, d4, d5, d6, d7, d8, d9, d10] => { results := [.lit (.bool false)], args := [d1, d2, d3, d4, d5, d6, d7, d8, d9, d10] }
  | _ => none }
def PackCodesWrongFalsely : Prop := packCodesRow.holds Try.pinned (OpenSpec.ofChange packCodesWrong)

/-- 'scullerlaw13.PackSame': WHATEVER THE INPUT: true; the input reads as it did. -/
def packSameSpec : ChangeSpec := { name := "packSame", fn := fun _ => fun
  | [d1, d2, d3, d4, d5, d6] => { results := [.lit (.bool true)], args := [d1, d2, d3, d4, d5, d6] }
  | _ => none }
def packSameRow : OpenClaim := { program := "ytcjicfpdmegckaa", sum := "ca8a09986c9a22f024ad8a1db51ccda904e43e6aaec5ab1cb9a7631091dee871", func := "sculler/scullerlaw13.PackSame", spec := "packSame", unfollowed := true, recurses := true, apart := false }
def PackSameSaid : Prop := packSameRow.holds Try.pinned (OpenSpec.ofChange packSameSpec)

/-- ITS FALSE NEIGHBOUR: 'it returns false'. Refute it at one input. -/
def packSameWrong : ChangeSpec := { name := "packSame", fn := fun _ => fun
  | [d1, d2, d3, d4, d5, d6] => { results := [.lit (.bool false)], args := [d1, d2, d3, d4, d5, d6] }
  | _ => none }
def PackSameWrongFalsely : Prop := packSameRow.holds Try.pinned (OpenSpec.ofChange packSameWrong)

/-- 'scullerlaw14.TokenCodes': WHATEVER THE INPUT: true; the input reads as it did. -/
def tokenCodesSpec : ChangeSpec := { name := "tokenCodes", fn := fun _ => fun
  | [d1, d2, d3, d4, d5, d6, d7, d8] => { results := [.lit (.bool true)], args := [d1, d2, d3, d4, d5, d6, d7, d8] }
  | _ => none }
def tokenCodesRow : OpenClaim := { program := "ytcjicfpdmegckaa", sum := "ca8a09986c9a22f024ad8a1db51ccda904e43e6aaec5ab1cb9a7631091dee871", func := "sculler/scullerlaw14.TokenCodes", spec := "tokenCodes", unfollowed := true, recurses := true, apart := false }
def TokenCodesSaid : Prop := tokenCodesRow.holds Try.pinned (OpenSpec.ofChange tokenCodesSpec)

/-- ITS FALSE NEIGHBOUR: 'it returns false'. Refute it at one input. -/
def tokenCodesWrong : ChangeSpec := { name := "tokenCodes", fn := fun _ => fun
  | [d1, d2, d3, d4, d5, d6, d7, d8] => { results := [.lit (.bool false)], args := [d1, d2, d3, d4, d5, d6, d7, d8] }
  | _ => none }
def TokenCodesWrongFalsely : Prop := tokenCodesRow.holds Try.pinned (OpenSpec.ofChange tokenCodesWrong)

/-- 'scullerlaw14.TokenBack': WHATEVER THE INPUT: true; the input reads as it did. -/
def tokenBackSpec : ChangeSpec := { name := "tokenBack", fn := fun _ => fun
  | [d1, d2, d3, d4, d5, d6] => { results := [.lit (.bool true)], args := [d1, d2, d3, d4, d5, d6] }
  | _ => none }
def tokenBackRow : OpenClaim := { program := "ytcjicfpdmegckaa", sum := "ca8a09986c9a22f024ad8a1db51ccda904e43e6aaec5ab1cb9a7631091dee871", func := "sculler/scullerlaw14.TokenBack", spec := "tokenBack", unfollowed := true, recurses := true, apart := false }
def TokenBackSaid : Prop := tokenBackRow.holds Try.pinned (OpenSpec.ofChange tokenBackSpec)

/-- ITS FALSE NEIGHBOUR: 'it returns false'. Refute it at one input. -/
def tokenBackWrong : ChangeSpec := { name := "tokenBack", fn := fun _ => fun
  | [d1, d2, d3, d4, d5, d6] => { results := [.lit (.bool false)], args := [d1, d2, d3, d4, d5, d6] }
  | _ => none }
def TokenBackWrongFalsely : Prop := tokenBackRow.holds Try.pinned (OpenSpec.ofChange tokenBackWrong)

/-- 'scullerlaw14.TokenBits': WHATEVER THE INPUT: true; the input reads as it did. -/
def tokenBitsSpec : ChangeSpec := { name := "tokenBits", fn := fun _ => fun
  | [d1, d2, d3, d4, d5] => { results := [.lit (.bool true)], args := [d1, d2, d3, d4, d5] }
  | _ => none }
def tokenBitsRow : OpenClaim := { program := "ytcjicfpdmegckaa", sum := "ca8a09986c9a22f024ad8a1db51ccda904e43e6aaec5ab1cb9a7631091dee871", func := "sculler/scullerlaw14.TokenBits", spec := "tokenBits", unfollowed := true, recurses := true, apart := false }
def TokenBitsSaid : Prop := tokenBitsRow.holds Try.pinned (OpenSpec.ofChange tokenBitsSpec)

/-- ITS FALSE NEIGHBOUR: 'it returns false'. Refute it at one input. -/
def tokenBitsWrong : ChangeSpec := { name := "tokenBits", fn := fun _ => fun
  | [d1, d2, d3, d4, d5] => { results := [.lit (.bool false)], args := [d1, d2, d3, d4, d5] }
  | _ => none }
def TokenBitsWrongFalsely : Prop := tokenBitsRow.holds Try.pinned (OpenSpec.ofChange tokenBitsWrong)

/-- 'scullerlaw14.TokenOnce': WHATEVER THE INPUT: true; the input reads as it did. -/
def tokenOnceSpec : ChangeSpec := { name := "tokenOnce", fn := fun _ => fun
  | [d] => { results := [.lit (.bool true)], args := [d] }
  | _ => none }
def tokenOnceRow : OpenClaim := { program := "ytcjicfpdmegckaa", sum := "ca8a09986c9a22f024ad8a1db51ccda904e43e6aaec5ab1cb9a7631091dee871", func := "sculler/scullerlaw14.TokenOnce", spec := "tokenOnce", unfollowed := true, recurses := true, apart := false }
def TokenOnceSaid : Prop := tokenOnceRow.holds Try.pinned (OpenSpec.ofChange tokenOnceSpec)

/-- ITS FALSE NEIGHBOUR: 'it returns false'. Refute it at one input. -/
def tokenOnceWrong : ChangeSpec := { name := "tokenOnce", fn := fun _ => fun
  | [d] => { results := [.lit (.bool false)], args := [d] }
  | _ => none }
def TokenOnceWrongFalsely : Prop := tokenOnceRow.holds Try.pinned (OpenSpec.ofChange tokenOnceWrong)

/-- 'scullerlaw14.TokenForm': WHATEVER THE INPUT: true; the input reads as it did. -/
def tokenFormSpec : ChangeSpec := { name := "tokenForm", fn := fun _ => fun
  | [d1, d2, d3, d4] => { results := [.lit (.bool true)], args := [d1, d2, d3, d4] }
  | _ => none }
def tokenFormRow : OpenClaim := { program := "ytcjicfpdmegckaa", sum := "ca8a09986c9a22f024ad8a1db51ccda904e43e6aaec5ab1cb9a7631091dee871", func := "sculler/scullerlaw14.TokenForm", spec := "tokenForm", unfollowed := true, recurses := true, apart := false }
def TokenFormSaid : Prop := tokenFormRow.holds Try.pinned (OpenSpec.ofChange tokenFormSpec)

/-- ITS FALSE NEIGHBOUR: 'it returns false'. Refute it at one input. -/
def tokenFormWrong : ChangeSpec := { name := "tokenForm", fn := fun _ => fun
  | [d1, d2, d3, d4] => { results := [.lit (.bool false)], args := [d1, d2, d3, d4] }
  | _ => none }
def TokenFormWrongFalsely : Prop := tokenFormRow.holds Try.pinned (OpenSpec.ofChange tokenFormWrong)

/-- 'scullerlaw14.TokenCut': WHATEVER THE INPUT: true; the input reads as it did. -/
def tokenCutSpec : ChangeSpec := { name := "tokenCut", fn := fun _ => fun
  | [d1, d2, d3, d4, d5] => { results := [.lit (.bool true)], args := [d1, d2, d3, d4, d5] }
  | _ => none }
def tokenCutRow : OpenClaim := { program := "ytcjicfpdmegckaa", sum := "ca8a09986c9a22f024ad8a1db51ccda904e43e6aaec5ab1cb9a7631091dee871", func := "sculler/scullerlaw14.TokenCut", spec := "tokenCut", unfollowed := true, recurses := true, apart := false }
def TokenCutSaid : Prop := tokenCutRow.holds Try.pinned (OpenSpec.ofChange tokenCutSpec)

/-- ITS FALSE NEIGHBOUR: 'it returns false'. Refute it at one input. -/
def tokenCutWrong : ChangeSpec := { name := "tokenCut", fn := fun _ => fun
  | [d1, d2, d3, d4, d5] => { results := [.lit (.bool false)], args := [d1, d2, d3, d4, d5] }
  | _ => none }
def TokenCutWrongFalsely : Prop := tokenCutRow.holds Try.pinned (OpenSpec.ofChange tokenCutWrong)

/-- 'scullerlaw12.ManiOrder': WHATEVER THE INPUT: true; the input reads as it did. -/
def maniOrderSpec : ChangeSpec := { name := "maniOrder", fn := fun _ => fun
  | [d1, d2, d3, d4] => { results := [.lit (.bool true)], args := [d1, d2, d3, d4] }
  | _ => none }
def maniOrderRow : OpenClaim := { program := "ytcjicfpdmegckaa", sum := "ca8a09986c9a22f024ad8a1db51ccda904e43e6aaec5ab1cb9a7631091dee871", func := "sculler/scullerlaw12.ManiOrder", spec := "maniOrder", unfollowed := true, recurses := true, apart := false }
def ManiOrderSaid : Prop := maniOrderRow.holds Try.pinned (OpenSpec.ofChange maniOrderSpec)

/-- ITS FALSE NEIGHBOUR: 'it returns false'. Refute it at one input. -/
def maniOrderWrong : ChangeSpec := { name := "maniOrder", fn := fun _ => fun
  | [d1, d2, d3, d4] => { results := [.lit (.bool false)], args := [d1, d2, d3, d4] }
  | _ => none }
def ManiOrderWrongFalsely : Prop := maniOrderRow.holds Try.pinned (OpenSpec.ofChange maniOrderWrong)

/-- 'scullerlaw15.KeepToken': WHATEVER THE INPUT: true; the input reads as it did. -/
def keepTokenSpec : ChangeSpec := { name := "keepToken", fn := fun _ => fun
  | [d1, d2, d3, d4, d5] => { results := [.lit (.bool true)], args := [d1, d2, d3, d4, d5] }
  | _ => none }
def keepTokenRow : OpenClaim := { program := "ytcjicfpdmegckaa", sum := "ca8a09986c9a22f024ad8a1db51ccda904e43e6aaec5ab1cb9a7631091dee871", func := "sculler/scullerlaw15.KeepToken", spec := "keepToken", inPlace := ["maps.clone"], unfollowed := true, recurses := true, apart := false }
def KeepTokenSaid : Prop := keepTokenRow.holds Try.pinned (OpenSpec.ofChange keepTokenSpec)

/-- ITS FALSE NEIGHBOUR: 'it returns false'. Refute it at one input. -/
def keepTokenWrong : ChangeSpec := { name := "keepToken", fn := fun _ => fun
  | [d1, d2, d3, d4, d5] => { results := [.lit (.bool false)], args := [d1, d2, d3, d4, d5] }
  | _ => none }
def KeepTokenWrongFalsely : Prop := keepTokenRow.holds Try.pinned (OpenSpec.ofChange keepTokenWrong)

/-- 'scullerlaw12.ManiCuts': WHATEVER THE INPUT: true; the input reads as it did. -/
def maniCutsSpec : ChangeSpec := { name := "maniCuts", fn := fun _ => fun
  | [d1, d2, d3, d4, d5, d6, d7, d8] => { results := [.lit (.bool true)], args := [d1, d2, d3, d4, d5, d6, d7, d8] }
  | _ => none }
def maniCutsRow : OpenClaim := { program := "ytcjicfpdmegckaa", sum := "ca8a09986c9a22f024ad8a1db51ccda904e43e6aaec5ab1cb9a7631091dee871", func := "sculler/scullerlaw12.ManiCuts", spec := "maniCuts", unfollowed := true, recurses := true, apart := false }
def ManiCutsSaid : Prop := maniCutsRow.holds Try.pinned (OpenSpec.ofChange maniCutsSpec)

/-- ITS FALSE NEIGHBOUR: 'it returns false'. Refute it at one input. -/
def maniCutsWrong : ChangeSpec := { name := "maniCuts", fn := fun _ => fun
  | [d1, d2, d3, d4, d5, d6, d7, d8] => { results := [.lit (.bool false)], args := [d1, d2, d3, d4, d5, d6, d7, d8] }
  | _ => none }
def ManiCutsWrongFalsely : Prop := maniCutsRow.holds Try.pinned (OpenSpec.ofChange maniCutsWrong)

/-- 'scullerlaw12.ManiWhole': WHATEVER THE INPUT: true; the input reads as it did. -/
def maniWholeSpec : ChangeSpec := { name := "maniWhole", fn := fun _ => fun
  | [d1, d2, d3, d4] => { results := [.lit (.bool true)], args := [d1, d2, d3, d4] }
  | _ => none }
def maniWholeRow : OpenClaim := { program := "ytcjicfpdmegckaa", sum := "ca8a09986c9a22f024ad8a1db51ccda904e43e6aaec5ab1cb9a7631091dee871", func := "sculler/scullerlaw12.ManiWhole", spec := "maniWhole", unfollowed := true, recurses := true, apart := false }
def ManiWholeSaid : Prop := maniWholeRow.holds Try.pinned (OpenSpec.ofChange maniWholeSpec)

/-- ITS FALSE NEIGHBOUR: 'it returns false'. Refute it at one input. -/
def maniWholeWrong : ChangeSpec := { name := "maniWhole", fn := fun _ => fun
  | [d1, d2, d3, d4] => { results := [.lit (.bool false)], args := [d1, d2, d3, d4] }
  | _ => none }
def ManiWholeWrongFalsely : Prop := maniWholeRow.holds Try.pinned (OpenSpec.ofChange maniWholeWrong)

/-- 'scullerlaw15.KeepDoes': WHATEVER THE INPUT: true; the input reads as it did. -/
def keepDoesSpec : ChangeSpec := { name := "keepDoes", fn := fun _ => fun
  | [d] => { results := [.lit (.bool true)], args := [d] }
  | _ => none }
def keepDoesRow : OpenClaim := { program := "ytcjicfpdmegckaa", sum := "ca8a09986c9a22f024ad8a1db51ccda904e43e6aaec5ab1cb9a7631091dee871", func := "sculler/scullerlaw15.KeepDoes", spec := "keepDoes", inPlace := ["maps.clone"], unfollowed := true, recurses := true, apart := false }
def KeepDoesSaid : Prop := keepDoesRow.holds Try.pinned (OpenSpec.ofChange keepDoesSpec)

/-- ITS FALSE NEIGHBOUR: 'it returns false'. Refute it at one input. -/
def keepDoesWrong : ChangeSpec := { name := "keepDoes", fn := fun _ => fun
  | [d] => { results := [.lit (.bool false)], args := [d] }
  | _ => none }
def KeepDoesWrongFalsely : Prop := keepDoesRow.holds Try.pinned (OpenSpec.ofChange keepDoesWrong)

/- THE SECOND FORM. 'bulk': how many values and letters a reading holds, each counted each time it is reached (what is shared counts as often as it is met; a slice's spare places count too). A statement '..UptoSaid' is the law's where the arguments, and the package variables that the reading takes, are together of bulk at most 1048576: NARROWER than '..Said'. Prove '..Said' where nothing that the law and all that it calls make is longer than what came in: it says more and counts as full. Else prove '..UptoSaid'. A law counts once. -/
mutual
def uptoBulk {H : Type} : DataW H → Nat
  | .lit (.string bytes) => bytes.length + 1
  | .lit _ => 1
  | .nil => 1
  | .ptr d => uptoBulk d + 1
  | .slice elems spare => uptoBulkAll elems + uptoBulkAll spare + 1
  | .agg parts => uptoBulkAll parts + 1
  | .iface _ d => uptoBulk d + 1
  | .map entries => uptoBulkEntries entries + 1
  | .held _ => 1
def uptoBulkAll {H : Type} : List (DataW H) → Nat
  | [] => 0
  | d :: r => uptoBulk d + uptoBulkAll r
def uptoBulkEntries {H : Type} : List (Lit × DataW H) → Nat
  | [] => 0
  | x :: r => uptoBulkEntry x + uptoBulkEntries r
def uptoBulkEntry {H : Type} : Lit × DataW H → Nat
  | (.string bytes, d) => bytes.length + uptoBulk d + 1
  | (_, d) => uptoBulk d + 1
 end
def uptoSmall : (H : Type) → List (DataW H) → Bool := fun _ ds => decide (uptoBulkAll ds ≤ 1048576)
def OpenSpec.upto (s : _root_.Go.ChangeSpec) : _root_.Go.OpenSpec := { _root_.Go.OpenSpec.ofChange s with cond := some uptoSmall }

/-- 'scullerlaw01.WordAdds', WHERE WHAT IT READS IS OF BULK AT MOST 1048576: true; the input reads as it did. -/
def wordAddsUptoRow : OpenClaim := { program := "ytcjicfpdmegckaa", sum := "ca8a09986c9a22f024ad8a1db51ccda904e43e6aaec5ab1cb9a7631091dee871", func := "sculler/scullerlaw01.WordAdds", spec := "wordAdds", apart := false, narrowed := true }
def WordAddsUptoSaid : Prop := wordAddsUptoRow.holds Try.pinned (OpenSpec.upto wordAddsSpec)

/-- 'scullerlaw02.CrcSums', WHERE WHAT IT READS IS OF BULK AT MOST 1048576: true; the input reads as it did. -/
def crcSumsUptoRow : OpenClaim := { program := "ytcjicfpdmegckaa", sum := "ca8a09986c9a22f024ad8a1db51ccda904e43e6aaec5ab1cb9a7631091dee871", func := "sculler/scullerlaw02.CrcSums", spec := "crcSums", unfollowed := true, recurses := true, apart := false, narrowed := true }
def CrcSumsUptoSaid : Prop := crcSumsUptoRow.holds Try.pinned (OpenSpec.upto crcSumsSpec)

/-- 'scullerlaw02.CrcSplit', WHERE WHAT IT READS IS OF BULK AT MOST 1048576: true; the input reads as it did. -/
def crcSplitUptoRow : OpenClaim := { program := "ytcjicfpdmegckaa", sum := "ca8a09986c9a22f024ad8a1db51ccda904e43e6aaec5ab1cb9a7631091dee871", func := "sculler/scullerlaw02.CrcSplit", spec := "crcSplit", unfollowed := true, recurses := true, apart := false, narrowed := true }
def CrcSplitUptoSaid : Prop := crcSplitUptoRow.holds Try.pinned (OpenSpec.upto crcSplitSpec)

/-- 'scullerlaw15.KeepLasts', WHERE WHAT IT READS IS OF BULK AT MOST 1048576: true; the input reads as it did. -/
def keepLastsUptoRow : OpenClaim := { program := "ytcjicfpdmegckaa", sum := "ca8a09986c9a22f024ad8a1db51ccda904e43e6aaec5ab1cb9a7631091dee871", func := "sculler/scullerlaw15.KeepLasts", spec := "keepLasts", inPlace := ["maps.clone"], unfollowed := true, recurses := true, apart := false, narrowed := true }
def KeepLastsUptoSaid : Prop := keepLastsUptoRow.holds Try.pinned (OpenSpec.upto keepLastsSpec)

/-- 'scullerlaw07.ArenaPlaces', WHERE WHAT IT READS IS OF BULK AT MOST 1048576: true; the input reads as it did. -/
def arenaPlacesUptoRow : OpenClaim := { program := "ytcjicfpdmegckaa", sum := "ca8a09986c9a22f024ad8a1db51ccda904e43e6aaec5ab1cb9a7631091dee871", func := "sculler/scullerlaw07.ArenaPlaces", spec := "arenaPlaces", unfollowed := true, recurses := true, apart := false, narrowed := true }
def ArenaPlacesUptoSaid : Prop := arenaPlacesUptoRow.holds Try.pinned (OpenSpec.upto arenaPlacesSpec)

/-- 'scullerlaw07.ArenaWithin', WHERE WHAT IT READS IS OF BULK AT MOST 1048576: true; the input reads as it did. -/
def arenaWithinUptoRow : OpenClaim := { program := "ytcjicfpdmegckaa", sum := "ca8a09986c9a22f024ad8a1db51ccda904e43e6aaec5ab1cb9a7631091dee871", func := "sculler/scullerlaw07.ArenaWithin", spec := "arenaWithin", unfollowed := true, recurses := true, apart := false, narrowed := true }
def ArenaWithinUptoSaid : Prop := arenaWithinUptoRow.holds Try.pinned (OpenSpec.upto arenaWithinSpec)

/-- 'scullerlaw15.KeepOrder', WHERE WHAT IT READS IS OF BULK AT MOST 1048576: true; the input reads as it did. -/
def keepOrderUptoRow : OpenClaim := { program := "ytcjicfpdmegckaa", sum := "ca8a09986c9a22f024ad8a1db51ccda904e43e6aaec5ab1cb9a7631091dee871", func := "sculler/scullerlaw15.KeepOrder", spec := "keepOrder", inPlace := ["maps.clone"], unfollowed := true, recurses := true, apart := false, narrowed := true }
def KeepOrderUptoSaid : Prop := keepOrderUptoRow.holds Try.pinned (OpenSpec.upto keepOrderSpec)

/-- 'scullerlaw15.KeepCopy', WHERE WHAT IT READS IS OF BULK AT MOST 1048576: true; the input reads as it did. -/
def keepCopyUptoRow : OpenClaim := { program := "ytcjicfpdmegckaa", sum := "ca8a09986c9a22f024ad8a1db51ccda904e43e6aaec5ab1cb9a7631091dee871", func := "sculler/scullerlaw15.KeepCopy", spec := "keepCopy", inPlace := ["maps.clone"], unfollowed := true, recurses := true, apart := false, narrowed := true }
def KeepCopyUptoSaid : Prop := keepCopyUptoRow.holds Try.pinned (OpenSpec.upto keepCopySpec)

/-- 'scullerlaw07.ArenaAsks', WHERE WHAT IT READS IS OF BULK AT MOST 1048576: true; the input reads as it did. -/
def arenaAsksUptoRow : OpenClaim := { program := "ytcjicfpdmegckaa", sum := "ca8a09986c9a22f024ad8a1db51ccda904e43e6aaec5ab1cb9a7631091dee871", func := "sculler/scullerlaw07.ArenaAsks", spec := "arenaAsks", unfollowed := true, recurses := true, apart := false, narrowed := true }
def ArenaAsksUptoSaid : Prop := arenaAsksUptoRow.holds Try.pinned (OpenSpec.upto arenaAsksSpec)

/-- 'scullerlaw07.ArenaCuts', WHERE WHAT IT READS IS OF BULK AT MOST 1048576: true; the input reads as it did. -/
def arenaCutsUptoRow : OpenClaim := { program := "ytcjicfpdmegckaa", sum := "ca8a09986c9a22f024ad8a1db51ccda904e43e6aaec5ab1cb9a7631091dee871", func := "sculler/scullerlaw07.ArenaCuts", spec := "arenaCuts", unfollowed := true, recurses := true, apart := false, narrowed := true }
def ArenaCutsUptoSaid : Prop := arenaCutsUptoRow.holds Try.pinned (OpenSpec.upto arenaCutsSpec)

/-- 'scullerlaw07.ArenaSpoil', WHERE WHAT IT READS IS OF BULK AT MOST 1048576: true; the input reads as it did. -/
def arenaSpoilUptoRow : OpenClaim := { program := "ytcjicfpdmegckaa", sum := "ca8a09986c9a22f024ad8a1db51ccda904e43e6aaec5ab1cb9a7631091dee871", func := "sculler/scullerlaw07.ArenaSpoil", spec := "arenaSpoil", unfollowed := true, recurses := true, apart := false, narrowed := true }
def ArenaSpoilUptoSaid : Prop := arenaSpoilUptoRow.holds Try.pinned (OpenSpec.upto arenaSpoilSpec)

/-- 'scullerlaw07.ArenaMost', WHERE WHAT IT READS IS OF BULK AT MOST 1048576: true; the input reads as it did. -/
def arenaMostUptoRow : OpenClaim := { program := "ytcjicfpdmegckaa", sum := "ca8a09986c9a22f024ad8a1db51ccda904e43e6aaec5ab1cb9a7631091dee871", func := "sculler/scullerlaw07.ArenaMost", spec := "arenaMost", unfollowed := true, recurses := true, apart := false, narrowed := true }
def ArenaMostUptoSaid : Prop := arenaMostUptoRow.holds Try.pinned (OpenSpec.upto arenaMostSpec)

/-- 'scullerlaw12.ManiTells', WHERE WHAT IT READS IS OF BULK AT MOST 1048576: true; the input reads as it did. -/
def maniTellsUptoRow : OpenClaim := { program := "ytcjicfpdmegckaa", sum := "ca8a09986c9a22f024ad8a1db51ccda904e43e6aaec5ab1cb9a7631091dee871", func := "sculler/scullerlaw12.ManiTells", spec := "maniTells", unfollowed := true, recurses := true, apart := false, narrowed := true }
def ManiTellsUptoSaid : Prop := maniTellsUptoRow.holds Try.pinned (OpenSpec.upto maniTellsSpec)

/-- 'scullerlaw12.ManiMost', WHERE WHAT IT READS IS OF BULK AT MOST 1048576: true; the input reads as it did. -/
def maniMostUptoRow : OpenClaim := { program := "ytcjicfpdmegckaa", sum := "ca8a09986c9a22f024ad8a1db51ccda904e43e6aaec5ab1cb9a7631091dee871", func := "sculler/scullerlaw12.ManiMost", spec := "maniMost", unfollowed := true, recurses := true, apart := false, narrowed := true }
def ManiMostUptoSaid : Prop := maniMostUptoRow.holds Try.pinned (OpenSpec.upto maniMostSpec)

/-- 'scullerlaw13.PackBack', WHERE WHAT IT READS IS OF BULK AT MOST 1048576: true; the input reads as it did. -/
def packBackUptoRow : OpenClaim := { program := "ytcjicfpdmegckaa", sum := "ca8a09986c9a22f024ad8a1db51ccda904e43e6aaec5ab1cb9a7631091dee871", func := "sculler/scullerlaw13.PackBack", spec := "packBack", unfollowed := true, recurses := true, apart := false, narrowed := true }
def PackBackUptoSaid : Prop := packBackUptoRow.holds Try.pinned (OpenSpec.upto packBackSpec)

/-- 'scullerlaw13.PackCut', WHERE WHAT IT READS IS OF BULK AT MOST 1048576: true; the input reads as it did. -/
def packCutUptoRow : OpenClaim := { program := "ytcjicfpdmegckaa", sum := "ca8a09986c9a22f024ad8a1db51ccda904e43e6aaec5ab1cb9a7631091dee871", func := "sculler/scullerlaw13.PackCut", spec := "packCut", unfollowed := true, recurses := true, apart := false, narrowed := true }
def PackCutUptoSaid : Prop := packCutUptoRow.holds Try.pinned (OpenSpec.upto packCutSpec)

/-- 'scullerlaw13.PackOnce', WHERE WHAT IT READS IS OF BULK AT MOST 1048576: true; the input reads as it did. -/
def packOnceUptoRow : OpenClaim := { program := "ytcjicfpdmegckaa", sum := "ca8a09986c9a22f024ad8a1db51ccda904e43e6aaec5ab1cb9a7631091dee871", func := "sculler/scullerlaw13.PackOnce", spec := "packOnce", unfollowed := true, recurses := true, apart := false, narrowed := true }
def PackOnceUptoSaid : Prop := packOnceUptoRow.holds Try.pinned (OpenSpec.upto packOnceSpec)

/-- 'scullerlaw13.PackFields', WHERE WHAT IT READS IS OF BULK AT MOST 1048576: true; the input reads as it did. -/
def packFieldsUptoRow : OpenClaim := { program := "ytcjicfpdmegckaa", sum := "ca8a09986c9a22f024ad8a1db51ccda904e43e6aaec5ab1cb9a7631091dee871", func := "sculler/scullerlaw13.PackFields", spec := "packFields", unfollowed := true, recurses := true, apart := false, narrowed := true }
def PackFieldsUptoSaid : Prop := packFieldsUptoRow.holds Try.pinned (OpenSpec.upto packFieldsSpec)

/-- 'scullerlaw07.ArenaBack', WHERE WHAT IT READS IS OF BULK AT MOST 1048576: true; the input reads as it did. -/
def arenaBackUptoRow : OpenClaim := { program := "ytcjicfpdmegckaa", sum := "ca8a09986c9a22f024ad8a1db51ccda904e43e6aaec5ab1cb9a7631091dee871", func := "sculler/scullerlaw07.ArenaBack", spec := "arenaBack", unfollowed := true, recurses := true, apart := false, narrowed := true }
def ArenaBackUptoSaid : Prop := arenaBackUptoRow.holds Try.pinned (OpenSpec.upto arenaBackSpec)

/-- 'scullerlaw13.PackCodes', WHERE WHAT IT READS IS OF BULK AT MOST 1048576: true; the input reads as it did. -/
def packCodesUptoRow : OpenClaim := { program := "ytcjicfpdmegckaa", sum := "ca8a09986c9a22f024ad8a1db51ccda904e43e6aaec5ab1cb9a7631091dee871", func := "sculler/scullerlaw13.PackCodes", spec := "packCodes", unfollowed := true, recurses := true, apart := false, narrowed := true }
def PackCodesUptoSaid : Prop := packCodesUptoRow.holds Try.pinned (OpenSpec.upto packCodesSpec)

/-- 'scullerlaw13.PackSame', WHERE WHAT IT READS IS OF BULK AT MOST 1048576: true; the input reads as it did. -/
def packSameUptoRow : OpenClaim := { program := "ytcjicfpdmegckaa", sum := "ca8a09986c9a22f024ad8a1db51ccda904e43e6aaec5ab1cb9a7631091dee871", func := "sculler/scullerlaw13.PackSame", spec := "packSame", unfollowed := true, recurses := true, apart := false, narrowed := true }
def PackSameUptoSaid : Prop := packSameUptoRow.holds Try.pinned (OpenSpec.upto packSameSpec)

/-- 'scullerlaw14.TokenCodes', WHERE WHAT IT READS IS OF BULK AT MOST 1048576: true; the input reads as it did. -/
def tokenCodesUptoRow : OpenClaim := { program := "ytcjicfpdmegckaa", sum := "ca8a09986c9a22f024ad8a1db51ccda904e43e6aaec5ab1cb9a7631091dee871", func := "sculler/scullerlaw14.TokenCodes", spec := "tokenCodes", unfollowed := true, recurses := true, apart := false, narrowed := true }
def TokenCodesUptoSaid : Prop := tokenCodesUptoRow.holds Try.pinned (OpenSpec.upto tokenCodesSpec)

/-- 'scullerlaw14.TokenBack', WHERE WHAT IT READS IS OF BULK AT MOST 1048576: true; the input reads as it did. -/
def tokenBackUptoRow : OpenClaim := { program := "ytcjicfpdmegckaa", sum := "ca8a09986c9a22f024ad8a1db51ccda904e43e6aaec5ab1cb9a7631091dee871", func := "sculler/scullerlaw14.TokenBack", spec := "tokenBack", unfollowed := true, recurses := true, apart := false, narrowed := true }
def TokenBackUptoSaid : Prop := tokenBackUptoRow.holds Try.pinned (OpenSpec.upto tokenBackSpec)

/-- 'scullerlaw14.TokenBits', WHERE WHAT IT READS IS OF BULK AT MOST 1048576: true; the input reads as it did. -/
def tokenBitsUptoRow : OpenClaim := { program := "ytcjicfpdmegckaa", sum := "ca8a09986c9a22f024ad8a1db51ccda904e43e6aaec5ab1cb9a7631091dee871", func := "sculler/scullerlaw14.TokenBits", spec := "tokenBits", unfollowed := true, recurses := true, apart := false, narrowed := true }
def TokenBitsUptoSaid : Prop := tokenBitsUptoRow.holds Try.pinned (OpenSpec.upto tokenBitsSpec)

/-- 'scullerlaw14.TokenOnce', WHERE WHAT IT READS IS OF BULK AT MOST 1048576: true; the input reads as it did. -/
def tokenOnceUptoRow : OpenClaim := { program := "ytcjicfpdmegckaa", sum := "ca8a09986c9a22f024ad8a1db51ccda904e43e6aaec5ab1cb9a7631091dee871", func := "sculler/scullerlaw14.TokenOnce", spec := "tokenOnce", unfollowed := true, recurses := true, apart := false, narrowed := true }
def TokenOnceUptoSaid : Prop := tokenOnceUptoRow.holds Try.pinned (OpenSpec.upto tokenOnceSpec)

/-- 'scullerlaw14.TokenForm', WHERE WHAT IT READS IS OF BULK AT MOST 1048576: true; the input reads as it did. -/
def tokenFormUptoRow : OpenClaim := { program := "ytcjicfpdmegckaa", sum := "ca8a09986c9a22f024ad8a1db51ccda904e43e6aaec5ab1cb9a7631091dee871", func := "sculler/scullerlaw14.TokenForm", spec := "tokenForm", unfollowed := true, recurses := true, apart := false, narrowed := true }
def TokenFormUptoSaid : Prop := tokenFormUptoRow.holds Try.pinned (OpenSpec.upto tokenFormSpec)

/-- 'scullerlaw14.TokenCut', WHERE WHAT IT READS IS OF BULK AT MOST 1048576: true; the input reads as it did. -/
def tokenCutUptoRow : OpenClaim := { program := "ytcjicfpdmegckaa", sum := "ca8a09986c9a22f024ad8a1db51ccda904e43e6aaec5ab1cb9a7631091dee871", func := "sculler/scullerlaw14.TokenCut", spec := "tokenCut", unfollowed := true, recurses := true, apart := false, narrowed := true }
def TokenCutUptoSaid : Prop := tokenCutUptoRow.holds Try.pinned (OpenSpec.upto tokenCutSpec)

/-- 'scullerlaw12.ManiOrder', WHERE WHAT IT READS IS OF BULK AT MOST 1048576: true; the input reads as it did. -/
def maniOrderUptoRow : OpenClaim := { program := "ytcjicfpdmegckaa", sum := "ca8a09986c9a22f024ad8a1db51ccda904e43e6aaec5ab1cb9a7631091dee871", func := "sculler/scullerlaw12.ManiOrder", spec := "maniOrder", unfollowed := true, recurses := true, apart := false, narrowed := true }
def ManiOrderUptoSaid : Prop := maniOrderUptoRow.holds Try.pinned (OpenSpec.upto maniOrderSpec)

/-- 'scullerlaw15.KeepToken', WHERE WHAT IT READS IS OF BULK AT MOST 1048576: true; the input reads as it did. -/
def keepTokenUptoRow : OpenClaim := { program := "ytcjicfpdmegckaa", sum := "ca8a09986c9a22f024ad8a1db51ccda904e43e6aaec5ab1cb9a7631091dee871", func := "sculler/scullerlaw15.KeepToken", spec := "keepToken", inPlace := ["maps.clone"], unfollowed := true, recurses := true, apart := false, narrowed := true }
def KeepTokenUptoSaid : Prop := keepTokenUptoRow.holds Try.pinned (OpenSpec.upto keepTokenSpec)

/-- 'scullerlaw12.ManiCuts', WHERE WHAT IT READS IS OF BULK AT MOST 1048576: true; the input reads as it did. -/
def maniCutsUptoRow : OpenClaim := { program := "ytcjicfpdmegckaa", sum := "ca8a09986c9a22f024ad8a1db51ccda904e43e6aaec5ab1cb9a7631091dee871", func := "sculler/scullerlaw12.ManiCuts", spec := "maniCuts", unfollowed := true, recurses := true, apart := false, narrowed := true }
def ManiCutsUptoSaid : Prop := maniCutsUptoRow.holds Try.pinned (OpenSpec.upto maniCutsSpec)

/-- 'scullerlaw12.ManiWhole', WHERE WHAT IT READS IS OF BULK AT MOST 1048576: true; the input reads as it did. -/
def maniWholeUptoRow : OpenClaim := { program := "ytcjicfpdmegckaa", sum := "ca8a09986c9a22f024ad8a1db51ccda904e43e6aaec5ab1cb9a7631091dee871", func := "sculler/scullerlaw12.ManiWhole", spec := "maniWhole", unfollowed := true, recurses := true, apart := false, narrowed := true }
def ManiWholeUptoSaid : Prop := maniWholeUptoRow.holds Try.pinned (OpenSpec.upto maniWholeSpec)

/-- 'scullerlaw15.KeepDoes', WHERE WHAT IT READS IS OF BULK AT MOST 1048576: true; the input reads as it did. -/
def keepDoesUptoRow : OpenClaim := { program := "ytcjicfpdmegckaa", sum := "ca8a09986c9a22f024ad8a1db51ccda904e43e6aaec5ab1cb9a7631091dee871", func := "sculler/scullerlaw15.KeepDoes", spec := "keepDoes", inPlace := ["maps.clone"], unfollowed := true, recurses := true, apart := false, narrowed := true }
def KeepDoesUptoSaid : Prop := keepDoesUptoRow.holds Try.pinned (OpenSpec.upto keepDoesSpec)

end Rows
end Go.Proofs.Ytcjicfpdmegckaa
