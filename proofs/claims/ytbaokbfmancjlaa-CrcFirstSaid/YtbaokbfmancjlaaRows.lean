/-
  No cell of these rows narrows 'for every input' (looked for: loops, veiled, ifaces, maps, wideKeys, modest, calm, conditions, laid).
  DERIVED. THE GIVEN ROWS OF THIS SEAT. 22 by the template 'for every input the law returns true; each argument reads behind the call as it read before'; 0 by the template 'total and deterministic' (their statements: YtbaokbfmancjlaaTotals.lean).
  GIVEN WITH THE SEED: the statements are not yours to turn. If you find one false, say at which input.
  Laid BY PROGRAM, IN A SANDBOX (cutbox-rows.mjs): the forced cells as the released guide's own fill.sh prints them over the translation 99f5a5a9c4253e64… (all of the seat's roots in one cut). By AI agents, Wed Nov 11 2026. No macro, syntax, notation, axiom, sorry.
-/
import Derived.Test.YtbaokbfmancjlaaChecked
import GoSem.Claim
import GoSem.ClaimJoined
import GoSem.ClaimMapViews
import Derived.JoinedTies
import Derived.KernelRfl
namespace Go.Proofs.Ytbaokbfmancjlaa
/- THE CELL 'sum', in the pinned program and in every row, IS THE sha256 OF THE DUMP (.gsa) THAT YtbaokbfmancjlaaProg.lean LOADS. Nothing in Lean hashes anything: it is a label: what it is worth is what the hold of that sum in a sandbox is worth. -/
noncomputable def Try.pinned : Pinned := { name := "ytbaokbfmancjlaa", sum := "99f5a5a9c4253e64577ce1ad5e96d258ca26274d2c8e099f1bc50a26a2c7f086", checked := Try.checked }
namespace Rows
def none {H : Type} : Left H := { results := [], args := [] }

/-- 'scullerlaw01.WordSigns': WHATEVER THE INPUT: true; the input reads as it did. -/
def wordSignsSpec : ChangeSpec := { name := "wordSigns", fn := fun _ => fun
  | [d1, d2] => { results := [.lit (.bool true)], args := [d1, d2] }
  | _ => none }
def wordSignsRow : OpenClaim := { program := "ytbaokbfmancjlaa", sum := "99f5a5a9c4253e64577ce1ad5e96d258ca26274d2c8e099f1bc50a26a2c7f086", func := "sculler/scullerlaw01.WordSigns", spec := "wordSigns", apart := false }
def WordSignsSaid : Prop := wordSignsRow.holds Try.pinned (OpenSpec.ofChange wordSignsSpec)

/-- ITS FALSE NEIGHBOUR: 'it returns false'. Refute it at one input. -/
def wordSignsWrong : ChangeSpec := { name := "wordSigns", fn := fun _ => fun
  | [d1, d2] => { results := [.lit (.bool false)], args := [d1, d2] }
  | _ => none }
def WordSignsWrongFalsely : Prop := wordSignsRow.holds Try.pinned (OpenSpec.ofChange wordSignsWrong)

/-- 'scullerlaw01.WordCeils': WHATEVER THE INPUT: true; the input reads as it did. -/
def wordCeilsSpec : ChangeSpec := { name := "wordCeils", fn := fun _ => fun
  | [d1, d2] => { results := [.lit (.bool true)], args := [d1, d2] }
  | _ => none }
def wordCeilsRow : OpenClaim := { program := "ytbaokbfmancjlaa", sum := "99f5a5a9c4253e64577ce1ad5e96d258ca26274d2c8e099f1bc50a26a2c7f086", func := "sculler/scullerlaw01.WordCeils", spec := "wordCeils", apart := false }
def WordCeilsSaid : Prop := wordCeilsRow.holds Try.pinned (OpenSpec.ofChange wordCeilsSpec)

/-- ITS FALSE NEIGHBOUR: 'it returns false'. Refute it at one input. -/
def wordCeilsWrong : ChangeSpec := { name := "wordCeils", fn := fun _ => fun
  | [d1, d2] => { results := [.lit (.bool false)], args := [d1, d2] }
  | _ => none }
def WordCeilsWrongFalsely : Prop := wordCeilsRow.holds Try.pinned (OpenSpec.ofChange wordCeilsWrong)

/-- 'scullerlaw01.WordAdds': WHATEVER THE INPUT: true; the input reads as it did. -/
def wordAddsSpec : ChangeSpec := { name := "wordAdds", fn := fun _ => fun
  | [d1, d2, d3, d4, d5, d6] => { results := [.lit (.bool true)], args := [d1, d2, d3, d4, d5, d6] }
  | _ => none }
def wordAddsRow : OpenClaim := { program := "ytbaokbfmancjlaa", sum := "99f5a5a9c4253e64577ce1ad5e96d258ca26274d2c8e099f1bc50a26a2c7f086", func := "sculler/scullerlaw01.WordAdds", spec := "wordAdds", apart := false }
def WordAddsSaid : Prop := wordAddsRow.holds Try.pinned (OpenSpec.ofChange wordAddsSpec)

/-- ITS FALSE NEIGHBOUR: 'it returns false'. Refute it at one input. -/
def wordAddsWrong : ChangeSpec := { name := "wordAdds", fn := fun _ => fun
  | [d1, d2, d3, d4, d5, d6] => { results := [.lit (.bool false)], args := [d1, d2, d3, d4, d5, d6] }
  | _ => none }
def WordAddsWrongFalsely : Prop := wordAddsRow.holds Try.pinned (OpenSpec.ofChange wordAddsWrong)

/-- 'scullerlaw01.WordBounds': WHATEVER THE INPUT: true; the input reads as it did. -/
def wordBoundsSpec : ChangeSpec := { name := "wordBounds", fn := fun _ => fun
  | [d1, d2, d3] => { results := [.lit (.bool true)], args := [d1, d2, d3] }
  | _ => none }
def wordBoundsRow : OpenClaim := { program := "ytbaokbfmancjlaa", sum := "99f5a5a9c4253e64577ce1ad5e96d258ca26274d2c8e099f1bc50a26a2c7f086", func := "sculler/scullerlaw01.WordBounds", spec := "wordBounds", apart := false }
def WordBoundsSaid : Prop := wordBoundsRow.holds Try.pinned (OpenSpec.ofChange wordBoundsSpec)

/-- ITS FALSE NEIGHBOUR: 'it returns false'. Refute it at one input. -/
def wordBoundsWrong : ChangeSpec := { name := "wordBounds", fn := fun _ => fun
  | [d1, d2, d3] => { results := [.lit (.bool false)], args := [d1, d2, d3] }
  | _ => none }
def WordBoundsWrongFalsely : Prop := wordBoundsRow.holds Try.pinned (OpenSpec.ofChange wordBoundsWrong)

/-- 'scullerlaw01.WordSums': WHATEVER THE INPUT: true; the input reads as it did. -/
def wordSumsSpec : ChangeSpec := { name := "wordSums", fn := fun _ => fun
  | [d1, d2, d3, d4] => { results := [.lit (.bool true)], args := [d1, d2, d3, d4] }
  | _ => none }
def wordSumsRow : OpenClaim := { program := "ytbaokbfmancjlaa", sum := "99f5a5a9c4253e64577ce1ad5e96d258ca26274d2c8e099f1bc50a26a2c7f086", func := "sculler/scullerlaw01.WordSums", spec := "wordSums", apart := false }
def WordSumsSaid : Prop := wordSumsRow.holds Try.pinned (OpenSpec.ofChange wordSumsSpec)

/-- ITS FALSE NEIGHBOUR: 'it returns false'. Refute it at one input. -/
def wordSumsWrong : ChangeSpec := { name := "wordSums", fn := fun _ => fun
  | [d1, d2, d3, d4] => { results := [.lit (.bool false)], args := [d1, d2, d3, d4] }
  | _ => none }
def WordSumsWrongFalsely : Prop := wordSumsRow.holds Try.pinned (OpenSpec.ofChange wordSumsWrong)

/-- 'scullerlaw01.WordPuts': WHATEVER THE INPUT: true; the input reads as it did. -/
def wordPutsSpec : ChangeSpec := { name := "wordPuts", fn := fun _ => fun
  | [d1, d2, d3, d4] => { results := [.lit (.bool true)], args := [d1, d2, d3, d4] }
  | _ => none }
def wordPutsRow : OpenClaim := { program := "ytbaokbfmancjlaa", sum := "99f5a5a9c4253e64577ce1ad5e96d258ca26274d2c8e099f1bc50a26a2c7f086", func := "sculler/scullerlaw01.WordPuts", spec := "wordPuts", unfollowed := true, recurses := true, apart := false }
def WordPutsSaid : Prop := wordPutsRow.holds Try.pinned (OpenSpec.ofChange wordPutsSpec)

/-- ITS FALSE NEIGHBOUR: 'it returns false'. Refute it at one input. -/
def wordPutsWrong : ChangeSpec := { name := "wordPuts", fn := fun _ => fun
  | [d1, d2, d3, d4] => { results := [.lit (.bool false)], args := [d1, d2, d3, d4] }
  | _ => none }
def WordPutsWrongFalsely : Prop := wordPutsRow.holds Try.pinned (OpenSpec.ofChange wordPutsWrong)

/-- 'scullerlaw01.WordBack': WHATEVER THE INPUT: true; the input reads as it did. -/
def wordBackSpec : ChangeSpec := { name := "wordBack", fn := fun _ => fun
  | [d1, d2] => { results := [.lit (.bool true)], args := [d1, d2] }
  | _ => none }
def wordBackRow : OpenClaim := { program := "ytbaokbfmancjlaa", sum := "99f5a5a9c4253e64577ce1ad5e96d258ca26274d2c8e099f1bc50a26a2c7f086", func := "sculler/scullerlaw01.WordBack", spec := "wordBack", unfollowed := true, recurses := true, apart := false }
def WordBackSaid : Prop := wordBackRow.holds Try.pinned (OpenSpec.ofChange wordBackSpec)

/-- ITS FALSE NEIGHBOUR: 'it returns false'. Refute it at one input. -/
def wordBackWrong : ChangeSpec := { name := "wordBack", fn := fun _ => fun
  | [d1, d2] => { results := [.lit (.bool false)], args := [d1, d2] }
  | _ => none }
def WordBackWrongFalsely : Prop := wordBackRow.holds Try.pinned (OpenSpec.ofChange wordBackWrong)

/-- 'scullerlaw01.WordFronts': WHATEVER THE INPUT: true; the input reads as it did. -/
def wordFrontsSpec : ChangeSpec := { name := "wordFronts", fn := fun _ => fun
  | [d1, d2] => { results := [.lit (.bool true)], args := [d1, d2] }
  | _ => none }
def wordFrontsRow : OpenClaim := { program := "ytbaokbfmancjlaa", sum := "99f5a5a9c4253e64577ce1ad5e96d258ca26274d2c8e099f1bc50a26a2c7f086", func := "sculler/scullerlaw01.WordFronts", spec := "wordFronts", unfollowed := true, recurses := true, apart := false }
def WordFrontsSaid : Prop := wordFrontsRow.holds Try.pinned (OpenSpec.ofChange wordFrontsSpec)

/-- ITS FALSE NEIGHBOUR: 'it returns false'. Refute it at one input. -/
def wordFrontsWrong : ChangeSpec := { name := "wordFronts", fn := fun _ => fun
  | [d1, d2] => { results := [.lit (.bool false)], args := [d1, d2] }
  | _ => none }
def WordFrontsWrongFalsely : Prop := wordFrontsRow.holds Try.pinned (OpenSpec.ofChange wordFrontsWrong)

/-- 'scullerlaw02.CrcSums': WHATEVER THE INPUT: true; the input reads as it did. -/
def crcSumsSpec : ChangeSpec := { name := "crcSums", fn := fun _ => fun
  | [d1, d2, d3] => { results := [.lit (.bool true)], args := [d1, d2, d3] }
  | _ => none }
def crcSumsRow : OpenClaim := { program := "ytbaokbfmancjlaa", sum := "99f5a5a9c4253e64577ce1ad5e96d258ca26274d2c8e099f1bc50a26a2c7f086", func := "sculler/scullerlaw02.CrcSums", spec := "crcSums", unfollowed := true, recurses := true, apart := false }
def CrcSumsSaid : Prop := crcSumsRow.holds Try.pinned (OpenSpec.ofChange crcSumsSpec)

/-- ITS FALSE NEIGHBOUR: 'it returns false'. Refute it at one input. -/
def crcSumsWrong : ChangeSpec := { name := "crcSums", fn := fun _ => fun
  | [d1, d2, d3] => { results := [.lit (.bool false)], args := [d1, d2, d3] }
  | _ => none }
def CrcSumsWrongFalsely : Prop := crcSumsRow.holds Try.pinned (OpenSpec.ofChange crcSumsWrong)

/-- 'scullerlaw02.CrcSplit': WHATEVER THE INPUT: true; the input reads as it did. -/
def crcSplitSpec : ChangeSpec := { name := "crcSplit", fn := fun _ => fun
  | [d1, d2, d3] => { results := [.lit (.bool true)], args := [d1, d2, d3] }
  | _ => none }
def crcSplitRow : OpenClaim := { program := "ytbaokbfmancjlaa", sum := "99f5a5a9c4253e64577ce1ad5e96d258ca26274d2c8e099f1bc50a26a2c7f086", func := "sculler/scullerlaw02.CrcSplit", spec := "crcSplit", unfollowed := true, recurses := true, apart := false }
def CrcSplitSaid : Prop := crcSplitRow.holds Try.pinned (OpenSpec.ofChange crcSplitSpec)

/-- ITS FALSE NEIGHBOUR: 'it returns false'. Refute it at one input. -/
def crcSplitWrong : ChangeSpec := { name := "crcSplit", fn := fun _ => fun
  | [d1, d2, d3] => { results := [.lit (.bool false)], args := [d1, d2, d3] }
  | _ => none }
def CrcSplitWrongFalsely : Prop := crcSplitRow.holds Try.pinned (OpenSpec.ofChange crcSplitWrong)

/-- 'scullerlaw02.CrcBurst': WHATEVER THE INPUT: true; the input reads as it did. -/
def crcBurstSpec : ChangeSpec := { name := "crcBurst", fn := fun _ => fun
  | [d1, d2, d3] => { results := [.lit (.bool true)], args := [d1, d2, d3] }
  | _ => none }
def crcBurstRow : OpenClaim := { program := "ytbaokbfmancjlaa", sum := "99f5a5a9c4253e64577ce1ad5e96d258ca26274d2c8e099f1bc50a26a2c7f086", func := "sculler/scullerlaw02.CrcBurst", spec := "crcBurst", unfollowed := true, recurses := true, apart := false }
def CrcBurstSaid : Prop := crcBurstRow.holds Try.pinned (OpenSpec.ofChange crcBurstSpec)

/-- ITS FALSE NEIGHBOUR: 'it returns false'. Refute it at one input. -/
def crcBurstWrong : ChangeSpec := { name := "crcBurst", fn := fun _ => fun
  | [d1, d2, d3] => { results := [.lit (.bool false)], args := [d1, d2, d3] }
  | _ => none }
def CrcBurstWrongFalsely : Prop := crcBurstRow.holds Try.pinned (OpenSpec.ofChange crcBurstWrong)

/-- 'scullerlaw02.CrcAlike': WHATEVER THE INPUT: true; the input reads as it did. -/
def crcAlikeSpec : ChangeSpec := { name := "crcAlike", fn := fun _ => fun
  | [d1, d2] => { results := [.lit (.bool true)], args := [d1, d2] }
  | _ => none }
def crcAlikeRow : OpenClaim := { program := "ytbaokbfmancjlaa", sum := "99f5a5a9c4253e64577ce1ad5e96d258ca26274d2c8e099f1bc50a26a2c7f086", func := "sculler/scullerlaw02.CrcAlike", spec := "crcAlike", unfollowed := true, recurses := true, apart := false }
def CrcAlikeSaid : Prop := crcAlikeRow.holds Try.pinned (OpenSpec.ofChange crcAlikeSpec)

/-- ITS FALSE NEIGHBOUR: 'it returns false'. Refute it at one input. -/
def crcAlikeWrong : ChangeSpec := { name := "crcAlike", fn := fun _ => fun
  | [d1, d2] => { results := [.lit (.bool false)], args := [d1, d2] }
  | _ => none }
def CrcAlikeWrongFalsely : Prop := crcAlikeRow.holds Try.pinned (OpenSpec.ofChange crcAlikeWrong)

/-- 'scullerlaw02.CrcTail': WHATEVER THE INPUT: true; the input reads as it did. -/
def crcTailSpec : ChangeSpec := { name := "crcTail", fn := fun _ => fun
  | [d1, d2] => { results := [.lit (.bool true)], args := [d1, d2] }
  | _ => none }
def crcTailRow : OpenClaim := { program := "ytbaokbfmancjlaa", sum := "99f5a5a9c4253e64577ce1ad5e96d258ca26274d2c8e099f1bc50a26a2c7f086", func := "sculler/scullerlaw02.CrcTail", spec := "crcTail", unfollowed := true, recurses := true, apart := false }
def CrcTailSaid : Prop := crcTailRow.holds Try.pinned (OpenSpec.ofChange crcTailSpec)

/-- ITS FALSE NEIGHBOUR: 'it returns false'. Refute it at one input. -/
def crcTailWrong : ChangeSpec := { name := "crcTail", fn := fun _ => fun
  | [d1, d2] => { results := [.lit (.bool false)], args := [d1, d2] }
  | _ => none }
def CrcTailWrongFalsely : Prop := crcTailRow.holds Try.pinned (OpenSpec.ofChange crcTailWrong)

/-- 'scullerlaw02.CrcFirst': WHATEVER THE INPUT: true; the input reads as it did. -/
def crcFirstSpec : ChangeSpec := { name := "crcFirst", fn := fun _ => fun
  | [d1, d2] => { results := [.lit (.bool true)], args := [d1, d2] }
  | _ => none }
def crcFirstRow : OpenClaim := { program := "ytbaokbfmancjlaa", sum := "99f5a5a9c4253e64577ce1ad5e96d258ca26274d2c8e099f1bc50a26a2c7f086", func := "sculler/scullerlaw02.CrcFirst", spec := "crcFirst", unfollowed := true, recurses := true, apart := false }
def CrcFirstSaid : Prop := crcFirstRow.holds Try.pinned (OpenSpec.ofChange crcFirstSpec)

/-- ITS FALSE NEIGHBOUR: 'it returns false'. Refute it at one input. -/
def crcFirstWrong : ChangeSpec := { name := "crcFirst", fn := fun _ => fun
  | [d1, d2] => { results := [.lit (.bool false)], args := [d1, d2] }
  | _ => none }
def CrcFirstWrongFalsely : Prop := crcFirstRow.holds Try.pinned (OpenSpec.ofChange crcFirstWrong)

/-- 'scullerlaw02.CrcZeros': WHATEVER THE INPUT: true; the input reads as it did. -/
def crcZerosSpec : ChangeSpec := { name := "crcZeros", fn := fun _ => fun
  | [d1, d2] => { results := [.lit (.bool true)], args := [d1, d2] }
  | _ => none }
def crcZerosRow : OpenClaim := { program := "ytbaokbfmancjlaa", sum := "99f5a5a9c4253e64577ce1ad5e96d258ca26274d2c8e099f1bc50a26a2c7f086", func := "sculler/scullerlaw02.CrcZeros", spec := "crcZeros", unfollowed := true, recurses := true, apart := false }
def CrcZerosSaid : Prop := crcZerosRow.holds Try.pinned (OpenSpec.ofChange crcZerosSpec)

/-- ITS FALSE NEIGHBOUR: 'it returns false'. Refute it at one input. -/
def crcZerosWrong : ChangeSpec := { name := "crcZeros", fn := fun _ => fun
  | [d1, d2] => { results := [.lit (.bool false)], args := [d1, d2] }
  | _ => none }
def CrcZerosWrongFalsely : Prop := crcZerosRow.holds Try.pinned (OpenSpec.ofChange crcZerosWrong)

/-- 'scullerlaw03.BitsFirst': WHATEVER THE INPUT: true; the input reads as it did. -/
def bitsFirstSpec : ChangeSpec := { name := "bitsFirst", fn := fun _ => fun
  | [d1, d2] => { results := [.lit (.bool true)], args := [d1, d2] }
  | _ => none }
def bitsFirstRow : OpenClaim := { program := "ytbaokbfmancjlaa", sum := "99f5a5a9c4253e64577ce1ad5e96d258ca26274d2c8e099f1bc50a26a2c7f086", func := "sculler/scullerlaw03.BitsFirst", spec := "bitsFirst", unfollowed := true, recurses := true, apart := false }
def BitsFirstSaid : Prop := bitsFirstRow.holds Try.pinned (OpenSpec.ofChange bitsFirstSpec)

/-- ITS FALSE NEIGHBOUR: 'it returns false'. Refute it at one input. -/
def bitsFirstWrong : ChangeSpec := { name := "bitsFirst", fn := fun _ => fun
  | [d1, d2] => { results := [.lit (.bool false)], args := [d1, d2] }
  | _ => none }
def BitsFirstWrongFalsely : Prop := bitsFirstRow.holds Try.pinned (OpenSpec.ofChange bitsFirstWrong)

/-- 'scullerlaw03.BitsAsk': WHATEVER THE INPUT: true; the input reads as it did. -/
def bitsAskSpec : ChangeSpec := { name := "bitsAsk", fn := fun _ => fun
  | [d1, d2, d3, d4] => { results := [.lit (.bool true)], args := [d1, d2, d3, d4] }
  | _ => none }
def bitsAskRow : OpenClaim := { program := "ytbaokbfmancjlaa", sum := "99f5a5a9c4253e64577ce1ad5e96d258ca26274d2c8e099f1bc50a26a2c7f086", func := "sculler/scullerlaw03.BitsAsk", spec := "bitsAsk", unfollowed := true, recurses := true, apart := false }
def BitsAskSaid : Prop := bitsAskRow.holds Try.pinned (OpenSpec.ofChange bitsAskSpec)

/-- ITS FALSE NEIGHBOUR: 'it returns false'. Refute it at one input. -/
def bitsAskWrong : ChangeSpec := { name := "bitsAsk", fn := fun _ => fun
  | [d1, d2, d3, d4] => { results := [.lit (.bool false)], args := [d1, d2, d3, d4] }
  | _ => none }
def BitsAskWrongFalsely : Prop := bitsAskRow.holds Try.pinned (OpenSpec.ofChange bitsAskWrong)

/-- 'scullerlaw03.BitsSets': WHATEVER THE INPUT: true; the input reads as it did. -/
def bitsSetsSpec : ChangeSpec := { name := "bitsSets", fn := fun _ => fun
  | [d1, d2] => { results := [.lit (.bool true)], args := [d1, d2] }
  | _ => none }
def bitsSetsRow : OpenClaim := { program := "ytbaokbfmancjlaa", sum := "99f5a5a9c4253e64577ce1ad5e96d258ca26274d2c8e099f1bc50a26a2c7f086", func := "sculler/scullerlaw03.BitsSets", spec := "bitsSets", unfollowed := true, recurses := true, apart := false }
def BitsSetsSaid : Prop := bitsSetsRow.holds Try.pinned (OpenSpec.ofChange bitsSetsSpec)

/-- ITS FALSE NEIGHBOUR: 'it returns false'. Refute it at one input. -/
def bitsSetsWrong : ChangeSpec := { name := "bitsSets", fn := fun _ => fun
  | [d1, d2] => { results := [.lit (.bool false)], args := [d1, d2] }
  | _ => none }
def BitsSetsWrongFalsely : Prop := bitsSetsRow.holds Try.pinned (OpenSpec.ofChange bitsSetsWrong)

/-- 'scullerlaw03.BitsEnds': WHATEVER THE INPUT: true; the input reads as it did. -/
def bitsEndsSpec : ChangeSpec := { name := "bitsEnds", fn := fun _ => fun
  | [d1, d2] => { results := [.lit (.bool true)], args := [d1, d2] }
  | _ => none }
def bitsEndsRow : OpenClaim := { program := "ytbaokbfmancjlaa", sum := "99f5a5a9c4253e64577ce1ad5e96d258ca26274d2c8e099f1bc50a26a2c7f086", func := "sculler/scullerlaw03.BitsEnds", spec := "bitsEnds", unfollowed := true, recurses := true, apart := false }
def BitsEndsSaid : Prop := bitsEndsRow.holds Try.pinned (OpenSpec.ofChange bitsEndsSpec)

/-- ITS FALSE NEIGHBOUR: 'it returns false'. Refute it at one input. -/
def bitsEndsWrong : ChangeSpec := { name := "bitsEnds", fn := fun _ => fun
  | [d1, d2] => { results := [.lit (.bool false)], args := [d1, d2] }
  | _ => none }
def BitsEndsWrongFalsely : Prop := bitsEndsRow.holds Try.pinned (OpenSpec.ofChange bitsEndsWrong)

/-- 'scullerlaw03.BitsSpoil': WHATEVER THE INPUT: true; the input reads as it did. -/
def bitsSpoilSpec : ChangeSpec := { name := "bitsSpoil", fn := fun _ => fun
  | [d1, d2] => { results := [.lit (.bool true)], args := [d1, d2] }
  | _ => none }
def bitsSpoilRow : OpenClaim := { program := "ytbaokbfmancjlaa", sum := "99f5a5a9c4253e64577ce1ad5e96d258ca26274d2c8e099f1bc50a26a2c7f086", func := "sculler/scullerlaw03.BitsSpoil", spec := "bitsSpoil", unfollowed := true, recurses := true, apart := false }
def BitsSpoilSaid : Prop := bitsSpoilRow.holds Try.pinned (OpenSpec.ofChange bitsSpoilSpec)

/-- ITS FALSE NEIGHBOUR: 'it returns false'. Refute it at one input. -/
def bitsSpoilWrong : ChangeSpec := { name := "bitsSpoil", fn := fun _ => fun
  | [d1, d2] => { results := [.lit (.bool false)], args := [d1, d2] }
  | _ => none }
def BitsSpoilWrongFalsely : Prop := bitsSpoilRow.holds Try.pinned (OpenSpec.ofChange bitsSpoilWrong)

/-- 'scullerlaw03.BitsJoin': WHATEVER THE INPUT: true; the input reads as it did. -/
def bitsJoinSpec : ChangeSpec := { name := "bitsJoin", fn := fun _ => fun
  | [d1, d2] => { results := [.lit (.bool true)], args := [d1, d2] }
  | _ => none }
def bitsJoinRow : OpenClaim := { program := "ytbaokbfmancjlaa", sum := "99f5a5a9c4253e64577ce1ad5e96d258ca26274d2c8e099f1bc50a26a2c7f086", func := "sculler/scullerlaw03.BitsJoin", spec := "bitsJoin", unfollowed := true, recurses := true, apart := false }
def BitsJoinSaid : Prop := bitsJoinRow.holds Try.pinned (OpenSpec.ofChange bitsJoinSpec)

/-- ITS FALSE NEIGHBOUR: 'it returns false'. Refute it at one input. -/
def bitsJoinWrong : ChangeSpec := { name := "bitsJoin", fn := fun _ => fun
  | [d1, d2] => { results := [.lit (.bool false)], args := [d1, d2] }
  | _ => none }
def BitsJoinWrongFalsely : Prop := bitsJoinRow.holds Try.pinned (OpenSpec.ofChange bitsJoinWrong)

/-- 'scullerlaw03.BitsLess': WHATEVER THE INPUT: true; the input reads as it did. -/
def bitsLessSpec : ChangeSpec := { name := "bitsLess", fn := fun _ => fun
  | [d1, d2] => { results := [.lit (.bool true)], args := [d1, d2] }
  | _ => none }
def bitsLessRow : OpenClaim := { program := "ytbaokbfmancjlaa", sum := "99f5a5a9c4253e64577ce1ad5e96d258ca26274d2c8e099f1bc50a26a2c7f086", func := "sculler/scullerlaw03.BitsLess", spec := "bitsLess", unfollowed := true, recurses := true, apart := false }
def BitsLessSaid : Prop := bitsLessRow.holds Try.pinned (OpenSpec.ofChange bitsLessSpec)

/-- ITS FALSE NEIGHBOUR: 'it returns false'. Refute it at one input. -/
def bitsLessWrong : ChangeSpec := { name := "bitsLess", fn := fun _ => fun
  | [d1, d2] => { results := [.lit (.bool false)], args := [d1, d2] }
  | _ => none }
def BitsLessWrongFalsely : Prop := bitsLessRow.holds Try.pinned (OpenSpec.ofChange bitsLessWrong)

/- THE SECOND FORM. 'bulk': how many values and letters a reading holds, each counted each time it is reached (what is shared counts as often as it is met; a slice's spare places count too). A statement '..UptoSaid' is the law's where the arguments, and the package variables that the reading takes, are together of bulk at most 1048576: NARROWER than '..Said'. Prove '..Said' where nothing that the law and all that it calls make is longer than what came in: it says more and counts as full. Else prove '..UptoSaid'. A law counts once. -/
mutual
def uptoBulk {H : Type} : DataW H → Nat
  | .lit (.string bytes) => bytes.length + 1
  | .lit _ => 1
  | .nil => 1
  | .ptr d => uptoBulk d + 1
  | .slice elems spare => uptoBulkAll elems + uptoBulkAll spare + 1
  | .agg parts => uptoBulkAll parts + 1
  | .iface _ d => uptoBulk d + 1
  | .map entries => uptoBulkEntries entries + 1
  | .held _ => 1
def uptoBulkAll {H : Type} : List (DataW H) → Nat
  | [] => 0
  | d :: r => uptoBulk d + uptoBulkAll r
def uptoBulkEntries {H : Type} : List (Lit × DataW H) → Nat
  | [] => 0
  | x :: r => uptoBulkEntry x + uptoBulkEntries r
def uptoBulkEntry {H : Type} : Lit × DataW H → Nat
  | (.string bytes, d) => bytes.length + uptoBulk d + 1
  | (_, d) => uptoBulk d + 1
 end
def uptoSmall : (H : Type) → List (DataW H) → Bool := fun _ ds => decide (uptoBulkAll ds ≤ 1048576)
def OpenSpec.upto (s : _root_.Go.ChangeSpec) : _root_.Go.OpenSpec := { _root_.Go.OpenSpec.ofChange s with cond := some uptoSmall }

/-- 'scullerlaw01.WordSigns', WHERE WHAT IT READS IS OF BULK AT MOST 1048576: true; the input reads as it did. -/
def wordSignsUptoRow : OpenClaim := { program := "ytbaokbfmancjlaa", sum := "99f5a5a9c4253e64577ce1ad5e96d258ca26274d2c8e099f1bc50a26a2c7f086", func := "sculler/scullerlaw01.WordSigns", spec := "wordSigns", apart := false, narrowed := true }
def WordSignsUptoSaid : Prop := wordSignsUptoRow.holds Try.pinned (OpenSpec.upto wordSignsSpec)

/-- 'scullerlaw01.WordCeils', WHERE WHAT IT READS IS OF BULK AT MOST 1048576: true; the input reads as it did. -/
def wordCeilsUptoRow : OpenClaim := { program := "ytbaokbfmancjlaa", sum := "99f5a5a9c4253e64577ce1ad5e96d258ca26274d2c8e099f1bc50a26a2c7f086", func := "sculler/scullerlaw01.WordCeils", spec := "wordCeils", apart := false, narrowed := true }
def WordCeilsUptoSaid : Prop := wordCeilsUptoRow.holds Try.pinned (OpenSpec.upto wordCeilsSpec)

/-- 'scullerlaw01.WordAdds', WHERE WHAT IT READS IS OF BULK AT MOST 1048576: true; the input reads as it did. -/
def wordAddsUptoRow : OpenClaim := { program := "ytbaokbfmancjlaa", sum := "99f5a5a9c4253e64577ce1ad5e96d258ca26274d2c8e099f1bc50a26a2c7f086", func := "sculler/scullerlaw01.WordAdds", spec := "wordAdds", apart := false, narrowed := true }
def WordAddsUptoSaid : Prop := wordAddsUptoRow.holds Try.pinned (OpenSpec.upto wordAddsSpec)

/-- 'scullerlaw01.WordBounds', WHERE WHAT IT READS IS OF BULK AT MOST 1048576: true; the input reads as it did. -/
def wordBoundsUptoRow : OpenClaim := { program := "ytbaokbfmancjlaa", sum := "99f5a5a9c4253e64577ce1ad5e96d258ca26274d2c8e099f1bc50a26a2c7f086", func := "sculler/scullerlaw01.WordBounds", spec := "wordBounds", apart := false, narrowed := true }
def WordBoundsUptoSaid : Prop := wordBoundsUptoRow.holds Try.pinned (OpenSpec.upto wordBoundsSpec)

/-- 'scullerlaw01.WordSums', WHERE WHAT IT READS IS OF BULK AT MOST 1048576: true; the input reads as it did. -/
def wordSumsUptoRow : OpenClaim := { program := "ytbaokbfmancjlaa", sum := "99f5a5a9c4253e64577ce1ad5e96d258ca26274d2c8e099f1bc50a26a2c7f086", func := "sculler/scullerlaw01.WordSums", spec := "wordSums", apart := false, narrowed := true }
def WordSumsUptoSaid : Prop := wordSumsUptoRow.holds Try.pinned (OpenSpec.upto wordSumsSpec)

/-- 'scullerlaw01.WordPuts', WHERE WHAT IT READS IS OF BULK AT MOST 1048576: true; the input reads as it did. -/
def wordPutsUptoRow : OpenClaim := { program := "ytbaokbfmancjlaa", sum := "99f5a5a9c4253e64577ce1ad5e96d258ca26274d2c8e099f1bc50a26a2c7f086", func := "sculler/scullerlaw01.WordPuts", spec := "wordPuts", unfollowed := true, recurses := true, apart := false, narrowed := true }
def WordPutsUptoSaid : Prop := wordPutsUptoRow.holds Try.pinned (OpenSpec.upto wordPutsSpec)

/-- 'scullerlaw01.WordBack', WHERE WHAT IT READS IS OF BULK AT MOST 1048576: true; the input reads as it did. -/
def wordBackUptoRow : OpenClaim := { program := "ytbaokbfmancjlaa", sum := "99f5a5a9c4253e64577ce1ad5e96d258ca26274d2c8e099f1bc50a26a2c7f086", func := "sculler/scullerlaw01.WordBack", spec := "wordBack", unfollowed := true, recurses := true, apart := false, narrowed := true }
def WordBackUptoSaid : Prop := wordBackUptoRow.holds Try.pinned (OpenSpec.upto wordBackSpec)

/-- 'scullerlaw01.WordFronts', WHERE WHAT IT READS IS OF BULK AT MOST 1048576: true; the input reads as it did. -/
def wordFrontsUptoRow : OpenClaim := { program := "ytbaokbfmancjlaa", sum := "99f5a5a9c4253e64577ce1ad5e96d258ca26274d2c8e099f1bc50a26a2c7f086", func := "sculler/scullerlaw01.WordFronts", spec := "wordFronts", unfollowed := true, recurses := true, apart := false, narrowed := true }
def WordFrontsUptoSaid : Prop := wordFrontsUptoRow.holds Try.pinned (OpenSpec.upto wordFrontsSpec)

/-- 'scullerlaw02.CrcSums', WHERE WHAT IT READS IS OF BULK AT MOST 1048576: true; the input reads as it did. -/
def crcSumsUptoRow : OpenClaim := { program := "ytbaokbfmancjlaa", sum := "99f5a5a9c4253e64577ce1ad5e96d258ca26274d2c8e099f1bc50a26a2c7f086", func := "sculler/scullerlaw02.CrcSums", spec := "crcSums", unfollowed := true, recurses := true, apart := false, narrowed := true }
def CrcSumsUptoSaid : Prop := crcSumsUptoRow.holds Try.pinned (OpenSpec.upto crcSumsSpec)

/-- 'scullerlaw02.CrcSplit', WHERE WHAT IT READS IS OF BULK AT MOST 1048576: true; the input reads as it did. -/
def crcSplitUptoRow : OpenClaim := { program := "ytbaokbfmancjlaa", sum := "99f5a5a9c4253e64577ce1ad5e96d258ca26274d2c8e099f1bc50a26a2c7f086", func := "sculler/scullerlaw02.CrcSplit", spec := "crcSplit", unfollowed := true, recurses := true, apart := false, narrowed := true }
def CrcSplitUptoSaid : Prop := crcSplitUptoRow.holds Try.pinned (OpenSpec.upto crcSplitSpec)

/-- 'scullerlaw02.CrcBurst', WHERE WHAT IT READS IS OF BULK AT MOST 1048576: true; the input reads as it did. -/
def crcBurstUptoRow : OpenClaim := { program := "ytbaokbfmancjlaa", sum := "99f5a5a9c4253e64577ce1ad5e96d258ca26274d2c8e099f1bc50a26a2c7f086", func := "sculler/scullerlaw02.CrcBurst", spec := "crcBurst", unfollowed := true, recurses := true, apart := false, narrowed := true }
def CrcBurstUptoSaid : Prop := crcBurstUptoRow.holds Try.pinned (OpenSpec.upto crcBurstSpec)

/-- 'scullerlaw02.CrcAlike', WHERE WHAT IT READS IS OF BULK AT MOST 1048576: true; the input reads as it did. -/
def crcAlikeUptoRow : OpenClaim := { program := "ytbaokbfmancjlaa", sum := "99f5a5a9c4253e64577ce1ad5e96d258ca26274d2c8e099f1bc50a26a2c7f086", func := "sculler/scullerlaw02.CrcAlike", spec := "crcAlike", unfollowed := true, recurses := true, apart := false, narrowed := true }
def CrcAlikeUptoSaid : Prop := crcAlikeUptoRow.holds Try.pinned (OpenSpec.upto crcAlikeSpec)

/-- 'scullerlaw02.CrcTail', WHERE WHAT IT READS IS OF BULK AT MOST 1048576: true; the input reads as it did. -/
def crcTailUptoRow : OpenClaim := { program := "ytbaokbfmancjlaa", sum := "99f5a5a9c4253e64577ce1ad5e96d258ca26274d2c8e099f1bc50a26a2c7f086", func := "sculler/scullerlaw02.CrcTail", spec := "crcTail", unfollowed := true, recurses := true, apart := false, narrowed := true }
def CrcTailUptoSaid : Prop := crcTailUptoRow.holds Try.pinned (OpenSpec.upto crcTailSpec)

/-- 'scullerlaw02.CrcFirst', WHERE WHAT IT READS IS OF BULK AT MOST 1048576: true; the input reads as it did. -/
def crcFirstUptoRow : OpenClaim := { program := "ytbaokbfmancjlaa", sum := "99f5a5a9c4253e64577ce1ad5e96d258ca26274d2c8e099f1bc50a26a2c7f086", func := "sculler/scullerlaw02.CrcFirst", spec := "crcFirst", unfollowed := true, recurses := true, apart := false, narrowed := true }
def CrcFirstUptoSaid : Prop := crcFirstUptoRow.holds Try.pinned (OpenSpec.upto crcFirstSpec)

/-- 'scullerlaw02.CrcZeros', WHERE WHAT IT READS IS OF BULK AT MOST 1048576: true; the input reads as it did. -/
def crcZerosUptoRow : OpenClaim := { program := "ytbaokbfmancjlaa", sum := "99f5a5a9c4253e64577ce1ad5e96d258ca26274d2c8e099f1bc50a26a2c7f086", func := "sculler/scullerlaw02.CrcZeros", spec := "crcZeros", unfollowed := true, recurses := true, apart := false, narrowed := true }
def CrcZerosUptoSaid : Prop := crcZerosUptoRow.holds Try.pinned (OpenSpec.upto crcZerosSpec)

/-- 'scullerlaw03.BitsFirst', WHERE WHAT IT READS IS OF BULK AT MOST 1048576: true; the input reads as it did. -/
def bitsFirstUptoRow : OpenClaim := { program := "ytbaokbfmancjlaa", sum := "99f5a5a9c4253e64577ce1ad5e96d258ca26274d2c8e099f1bc50a26a2c7f086", func := "sculler/scullerlaw03.BitsFirst", spec := "bitsFirst", unfollowed := true, recurses := true, apart := false, narrowed := true }
def BitsFirstUptoSaid : Prop := bitsFirstUptoRow.holds Try.pinned (OpenSpec.upto bitsFirstSpec)

/-- 'scullerlaw03.BitsAsk', WHERE WHAT IT READS IS OF BULK AT MOST 1048576: true; the input reads as it did. -/
def bitsAskUptoRow : OpenClaim := { program := "ytbaokbfmancjlaa", sum := "99f5a5a9c4253e64577ce1ad5e96d258ca26274d2c8e099f1bc50a26a2c7f086", func := "sculler/scullerlaw03.BitsAsk", spec := "bitsAsk", unfollowed := true, recurses := true, apart := false, narrowed := true }
def BitsAskUptoSaid : Prop := bitsAskUptoRow.holds Try.pinned (OpenSpec.upto bitsAskSpec)

/-- 'scullerlaw03.BitsSets', WHERE WHAT IT READS IS OF BULK AT MOST 1048576: true; the input reads as it did. -/
def bitsSetsUptoRow : OpenClaim := { program := "ytbaokbfmancjlaa", sum := "99f5a5a9c4253e64577ce1ad5e96d258ca26274d2c8e099f1bc50a26a2c7f086", func := "sculler/scullerlaw03.BitsSets", spec := "bitsSets", unfollowed := true, recurses := true, apart := false, narrowed := true }
def BitsSetsUptoSaid : Prop := bitsSetsUptoRow.holds Try.pinned (OpenSpec.upto bitsSetsSpec)

/-- 'scullerlaw03.BitsEnds', WHERE WHAT IT READS IS OF BULK AT MOST 1048576: true; the input reads as it did. -/
def bitsEndsUptoRow : OpenClaim := { program := "ytbaokbfmancjlaa", sum := "99f5a5a9c4253e64577ce1ad5e96d258ca26274d2c8e099f1bc50a26a2c7f086", func := "sculler/scullerlaw03.BitsEnds", spec := "bitsEnds", unfollowed := true, recurses := true, apart := false, narrowed := true }
def BitsEndsUptoSaid : Prop := bitsEndsUptoRow.holds Try.pinned (OpenSpec.upto bitsEndsSpec)

/-- 'scullerlaw03.BitsSpoil', WHERE WHAT IT READS IS OF BULK AT MOST 1048576: true; the input reads as it did. -/
def bitsSpoilUptoRow : OpenClaim := { program := "ytbaokbfmancjlaa", sum := "99f5a5a9c4253e64577ce1ad5e96d258ca26274d2c8e099f1bc50a26a2c7f086", func := "sculler/scullerlaw03.BitsSpoil", spec := "bitsSpoil", unfollowed := true, recurses := true, apart := false, narrowed := true }
def BitsSpoilUptoSaid : Prop := bitsSpoilUptoRow.holds Try.pinned (OpenSpec.upto bitsSpoilSpec)

/-- 'scullerlaw03.BitsJoin', WHERE WHAT IT READS IS OF BULK AT MOST 1048576: true; the input reads as it did. -/
def bitsJoinUptoRow : OpenClaim := { program := "ytbaokbfmancjlaa", sum := "99f5a5a9c4253e64577ce1ad5e96d258ca26274d2c8e099f1bc50a26a2c7f086", func := "sculler/scullerlaw03.BitsJoin", spec := "bitsJoin", unfollowed := true, recurses := true, apart := false, narrowed := true }
def BitsJoinUptoSaid : Prop := bitsJoinUptoRow.holds Try.pinned (OpenSpec.upto bitsJoinSpec)

/-- 'scullerlaw03.BitsLess', WHERE WHAT IT READS IS OF BULK AT MOST 1048576: true; the input reads as it did. -/
def bitsLessUptoRow : OpenClaim := { program := "ytbaokbfmancjlaa", sum := "99f5a5a9c4253e64577ce1ad5e96d258ca26274d2c8e099f1bc50a26a2c7f086", func := "sculler/scullerlaw03.BitsLess", spec := "bitsLess", unfollowed := true, recurses := true, apart := false, narrowed := true }
def BitsLessUptoSaid : Prop := bitsLessUptoRow.holds Try.pinned (OpenSpec.upto bitsLessSpec)

end Rows
end Go.Proofs.Ytbaokbfmancjlaa
