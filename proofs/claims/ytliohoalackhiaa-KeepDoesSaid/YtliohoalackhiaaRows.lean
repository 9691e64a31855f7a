/-
  No cell of these rows narrows 'for every input' (looked for: loops, veiled, ifaces, maps, wideKeys, modest, calm, conditions, laid).
  DERIVED. THE GIVEN ROWS OF THIS SEAT. 11 by the template 'for every input the law returns true; each argument reads behind the call as it read before'; 0 by the template 'total and deterministic' (their statements: YtliohoalackhiaaTotals.lean).
  GIVEN WITH THE SEED: the statements are not yours to turn. If you find one false, say at which input.
  Laid BY PROGRAM, IN A SANDBOX (cutbox-rows.mjs): the forced cells as the released guide's own fill.sh prints them over the translation fa60b5d29984314e… (all of the seat's roots in one cut). By AI agents, Wed Nov 11 2026. No macro, syntax, notation, axiom, sorry.
-/
import Derived.Test.YtliohoalackhiaaChecked
import GoSem.Claim
import GoSem.ClaimJoined
import GoSem.ClaimMapViews
import Derived.JoinedTies
import Derived.KernelRfl
namespace Go.Proofs.Ytliohoalackhiaa
/- THE CELL 'sum', in the pinned program and in every row, IS THE sha256 OF THE DUMP (.gsa) THAT YtliohoalackhiaaProg.lean LOADS. Nothing in Lean hashes anything: it is a label: what it is worth is what the hold of that sum in a sandbox is worth. -/
noncomputable def Try.pinned : Pinned := { name := "ytliohoalackhiaa", sum := "fa60b5d29984314e4919f3b3608a7f6c2555fc26f7c0e4ea837eb98ba0ff86b6", checked := Try.checked }
namespace Rows
def none {H : Type} : Left H := { results := [], args := [] }

/-- 'scullerlaw15.KeepLasts': WHATEVER THE INPUT: true; the input reads as it did. -/
def keepLastsSpec : ChangeSpec := { name := "keepLasts", fn := fun _ => fun
  | [d1, d2, d3] => { results := [.lit (.bool true)], args := [d1, d2, d3] }
  | _ => none }
def keepLastsRow : OpenClaim := { program := "ytliohoalackhiaa", sum := "fa60b5d29984314e4919f3b3608a7f6c2555fc26f7c0e4ea837eb98ba0ff86b6", func := "sculler/scullerlaw15.KeepLasts", spec := "keepLasts", inPlace := ["maps.clone"], unfollowed := true, recurses := true, apart := false }
def KeepLastsSaid : Prop := keepLastsRow.holds Try.pinned (OpenSpec.ofChange keepLastsSpec)

/-- ITS FALSE NEIGHBOUR: 'it returns false'. Refute it at one input. -/
def keepLastsWrong : ChangeSpec := { name := "keepLasts", fn := fun _ => fun
  | [d1, d2, d3] => { results := [.lit (.bool false)], args := [d1, d2, d3] }
  | _ => none }
def KeepLastsWrongFalsely : Prop := keepLastsRow.holds Try.pinned (OpenSpec.ofChange keepLastsWrong)

/-- 'scullerlaw15.KeepOrder': WHATEVER THE INPUT: true; the input reads as it did. -/
def keepOrderSpec : ChangeSpec := { name := "keepOrder", fn := fun _ => fun
  | [d1, d2, d3, d4, d5, d6] => { results := [.lit (.bool true)], args := [d1, d2, d3, d4, d5, d6] }
  | _ => none }
def keepOrderRow : OpenClaim := { program := "ytliohoalackhiaa", sum := "fa60b5d29984314e4919f3b3608a7f6c2555fc26f7c0e4ea837eb98ba0ff86b6", func := "sculler/scullerlaw15.KeepOrder", spec := "keepOrder", inPlace := ["maps.clone"], unfollowed := true, recurses := true, apart := false }
def KeepOrderSaid : Prop := keepOrderRow.holds Try.pinned (OpenSpec.ofChange keepOrderSpec)

/-- ITS FALSE NEIGHBOUR: 'it returns false'. Refute it at one input. -/
def keepOrderWrong : ChangeSpec := { name := "keepOrder", fn := fun _ => fun
  | [d1, d2, d3, d4, d5, d6] => { results := [.lit (.bool false)], args := [d1, d2, d3, d4, d5, d6] }
  | _ => none }
def KeepOrderWrongFalsely : Prop := keepOrderRow.holds Try.pinned (OpenSpec.ofChange keepOrderWrong)

/-- 'scullerlaw15.KeepCopy': WHATEVER THE INPUT: true; the input reads as it did. -/
def keepCopySpec : ChangeSpec := { name := "keepCopy", fn := fun _ => fun
  | [d1, d2, d3] => { results := [.lit (.bool true)], args := [d1, d2, d3] }
  | _ => none }
def keepCopyRow : OpenClaim := { program := "ytliohoalackhiaa", sum := "fa60b5d29984314e4919f3b3608a7f6c2555fc26f7c0e4ea837eb98ba0ff86b6", func := "sculler/scullerlaw15.KeepCopy", spec := "keepCopy", inPlace := ["maps.clone"], unfollowed := true, recurses := true, apart := false }
def KeepCopySaid : Prop := keepCopyRow.holds Try.pinned (OpenSpec.ofChange keepCopySpec)

/-- ITS FALSE NEIGHBOUR: 'it returns false'. Refute it at one input. -/
def keepCopyWrong : ChangeSpec := { name := "keepCopy", fn := fun _ => fun
  | [d1, d2, d3] => { results := [.lit (.bool false)], args := [d1, d2, d3] }
  | _ => none }
def KeepCopyWrongFalsely : Prop := keepCopyRow.holds Try.pinned (OpenSpec.ofChange keepCopyWrong)

/-- 'scullerlaw12.ManiTells': WHATEVER THE INPUT: true; the input reads as it did. -/
def maniTellsSpec : ChangeSpec := { name := "maniTells", fn := fun _ => fun
  | [d1, d2, d3, d4, d5, d6, d7, d8] => { results := [.lit (.bool true)], args := [d1, d2, d3, d4, d5, d6, d7, d8] }
  | _ => none }
def maniTellsRow : OpenClaim := { program := "ytliohoalackhiaa", sum := "fa60b5d29984314e4919f3b3608a7f6c2555fc26f7c0e4ea837eb98ba0ff86b6", func := "sculler/scullerlaw12.ManiTells", spec := "maniTells", unfollowed := true, recurses := true, apart := false }
def ManiTellsSaid : Prop := maniTellsRow.holds Try.pinned (OpenSpec.ofChange maniTellsSpec)

/-- ITS FALSE NEIGHBOUR: 'it returns false'. Refute it at one input. -/
def maniTellsWrong : ChangeSpec := { name := "maniTells", fn := fun _ => fun
  | [d1, d2, d3, d4, d5, d6, d7, d8] => { results := [.lit (.bool false)], args := [d1, d2, d3, d4, d5, d6, d7, d8] }
  | _ => none }
def ManiTellsWrongFalsely : Prop := maniTellsRow.holds Try.pinned (OpenSpec.ofChange maniTellsWrong)

/-- 'scullerlaw13.PackCodes': WHATEVER THE INPUT: true; the input reads as it did. -/
def packCodesSpec : ChangeSpec := { name := "packCodes", fn := fun _ => fun
  | [d1, d2, d3, d4, d5, d6, d7, d8, d9, d10] => { results := [.lit (.bool true)], args := [d1, d2, d3, d4, d5, d6, d7, d8, d9, d10] }
  | _ => none }
def packCodesRow : OpenClaim := { program := "ytliohoalackhiaa", sum := "fa60b5d29984314e4919f3b3608a7f6c2555fc26f7c0e4ea837eb98ba0ff86b6", func := "sculler/scullerlaw13.PackCodes", spec := "packCodes", unfollowed := true, recurses := true, apart := false }
def PackCodesSaid : Prop := packCodesRow.holds Try.pinned (OpenSpec.ofChange packCodesSpec)

/-- ITS FALSE NEIGHBOUR: 'it returns false'. Refute it at one input. -/
def packCodesWrong : ChangeSpec := { name := "packCodes", fn := fun _ => fun
  | [d1, d2, d3, d4, d5, d6, d7, d8, d9, d10] => { results := [.lit (.bool false)], args := [d1, d2, d3, d4, d5, d6, d7, d8, d9, d10] }
  | _ => none }
def PackCodesWrongFalsely : Prop := packCodesRow.holds Try.pinned (OpenSpec.ofChange packCodesWrong)

/-- 'scullerlaw14.TokenCodes': WHATEVER THE INPUT: true; the input reads as it did. -/
def tokenCodesSpec : ChangeSpec := { name := "tokenCodes", fn := fun _ => fun
  | [d1, d2, d3, d4, d5, d6, d7, d8] => { results := [.lit (.bool true)], args := [d1, d2, d3, d4, d5, d6, d7, d8] }
  | _ => none }
def tokenCodesRow : OpenClaim := { program := "ytliohoalackhiaa", sum := "fa60b5d29984314e4919f3b3608a7f6c2555fc26f7c0e4ea837eb98ba0ff86b6", func := "sculler/scullerlaw14.TokenCodes", spec := "tokenCodes", unfollowed := true, recurses := true, apart := false }
def TokenCodesSaid : Prop := tokenCodesRow.holds Try.pinned (OpenSpec.ofChange tokenCodesSpec)

/-- ITS FALSE NEIGHBOUR: 'it returns false'. Refute it at one input. -/
def tokenCodesWrong : ChangeSpec := { name := "tokenCodes", fn := fun _ => fun
  | [d1, d2, d3, d4, d5, d6, d7, d8] => { results := [.lit (.bool false)], args := [d1, d2, d3, d4, d5, d6, d7, d8] }
  | _ => none }
def TokenCodesWrongFalsely : Prop := tokenCodesRow.holds Try.pinned (OpenSpec.ofChange tokenCodesWrong)

/-- 'scullerlaw12.ManiOrder': WHATEVER THE INPUT: true; the input reads as it did. -/
def maniOrderSpec : ChangeSpec := { name := "maniOrder", fn := fun _ => fun
  | [d1, d2, d3, d4] => { results := [.lit (.bool true)], args := [d1, d2, d3, d4] }
  | _ => none }
def maniOrderRow : OpenClaim := { program := "ytliohoalackhiaa", sum := "fa60b5d29984314e4919f3b3608a7f6c2555fc26f7c0e4ea837eb98ba0ff86b6", func := "sculler/scullerlaw12.ManiOrder", spec := "maniOrder", unfollowed := true, recurses := true, apart := false }
def ManiOrderSaid : Prop := maniOrderRow.holds Try.pinned (OpenSpec.ofChange maniOrderSpec)

/-- ITS FALSE NEIGHBOUR: 'it returns false'. Refute it at one input. -/
def maniOrderWrong : ChangeSpec := { name := "maniOrder", fn := fun _ => fun
  | [d1, d2, d3, d4] => { results := [.lit (.bool false)], args := [d1, d2, d3, d4] }
  | _ => none }
def ManiOrderWrongFalsely : Prop := maniOrderRow.holds Try.pinned (OpenSpec.ofChange maniOrderWrong)

/-- 'scullerlaw15.KeepToken': WHATEVER THE INPUT: true; the input reads as it did. -/
def keepTokenSpec : ChangeSpec := { name := "keepToken", fn := fun _ => fun
  | [d1, d2, d3, d4, d5] => { results := [.lit (.bool true)], args := [d1, d2, d3, d4, d5] }
  | _ => none }
def keepTokenRow : OpenClaim := { program := "ytliohoalackhiaa", sum := "fa60b5d29984314e4919f3b3608a7f6c2555fc26f7c0e4ea837eb98ba0ff86b6", func := "sculler/scullerlaw15.KeepToken", spec := "keepToken", inPlace := ["maps.clone"], unfollowed := true, recurses := true, apart := false }
def KeepTokenSaid : Prop := keepTokenRow.holds Try.pinned (OpenSpec.ofChange keepTokenSpec)

/-- ITS FALSE NEIGHBOUR: 'it returns false'. Refute it at one input. -/
def keepTokenWrong : ChangeSpec := { name := "keepToken", fn := fun _ => fun
  | [d1, d2, d3, d4, d5] => { results := [.lit (.bool false)], args := [d1, d2, d3, d4, d5] }
  | _ => none }
def KeepTokenWrongFalsely : Prop := keepTokenRow.holds Try.pinned (OpenSpec.ofChange keepTokenWrong)

/-- 'scullerlaw12.ManiCuts': WHATEVER THE INPUT: true; the input reads as it did. -/
def maniCutsSpec : ChangeSpec := { name := "maniCuts", fn := fun _ => fun
  | [d1, d2, d3, d4, d5, d6, d7, d8] => { results := [.lit (.bool true)], args := [d1, d2, d3, d4, d5, d6, d7, d8] }
  | _ => none }
def maniCutsRow : OpenClaim := { program := "ytliohoalackhiaa", sum := "fa60b5d29984314e4919f3b3608a7f6c2555fc26f7c0e4ea837eb98ba0ff86b6", func := "sculler/scullerlaw12.ManiCuts", spec := "maniCuts", unfollowed := true, recurses := true, apart := false }
def ManiCutsSaid : Prop := maniCutsRow.holds Try.pinned (OpenSpec.ofChange maniCutsSpec)

/-- ITS FALSE NEIGHBOUR: 'it returns false'. Refute it at one input. -/
def maniCutsWrong : ChangeSpec := { name := "maniCuts", fn := fun _ => fun
  | [d1, d2, d3, d4, d5, d6, d7, d8] => { results := [.lit (.bool false)], args := [d1, d2, d3, d4, d5, d6, d7, d8] }
  | _ => none }
def ManiCutsWrongFalsely : Prop := maniCutsRow.holds Try.pinned (OpenSpec.ofChange maniCutsWrong)

/-- 'scullerlaw12.ManiWhole': WHATEVER THE INPUT: true; the input reads as it did. -/
def maniWholeSpec : ChangeSpec := { name := "maniWhole", fn := fun _ => fun
  | [d1, d2, d3, d4] => { results := [.lit (.bool true)], args := [d1, d2, d3, d4] }
  | _ => none }
def maniWholeRow : OpenClaim := { program := "ytliohoalackhiaa", sum := "fa60b5d29984314e4919f3b3608a7f6c2555fc26f7c0e4ea837eb98ba0ff86b6", func := "sculler/scullerlaw12.ManiWhole", spec := "maniWhole", unfollowed := true, recurses := true, apart := false }
def ManiWholeSaid : Prop := maniWholeRow.holds Try.pinned (OpenSpec.ofChange maniWholeSpec)

/-- ITS FALSE NEIGHBOUR: 'it returns false'. Refute it at one input. -/
def maniWholeWrong : ChangeSpec := { name := "maniWhole", fn := fun _ => fun
  | [d1, d2, d3, d4] => { results := [.lit (.bool false)], args := [d1, d2, d3, d4] }
  | _ => none }
def ManiWholeWrongFalsely : Prop := maniWholeRow.holds Try.pinned (OpenSpec.ofChange maniWholeWrong)

/-- 'scullerlaw15.KeepDoes': WHATEVER THE INPUT: true; the input reads as it did. -/
def keepDoesSpec : ChangeSpec := { name := "keepDoes", fn := fun _ => fun
  | [d] => { results := [.lit (.bool true)], args := [d] }
  | _ => none }
def keepDoesRow : OpenClaim := { program := "ytliohoalackhiaa", sum := "fa60b5d29984314e4919f3b3608a7f6c2555fc26f7c0e4ea837eb98ba0ff86b6", func := "sculler/scullerlaw15.KeepDoes", spec := "keepDoes", inPlace := ["maps.clone"], unfollowed := true, recurses := true, apart := false }
def KeepDoesSaid : Prop := keepDoesRow.holds Try.pinned (OpenSpec.ofChange keepDoesSpec)

/-- ITS FALSE NEIGHBOUR: 'it returns false'. Refute it at one input. -/
def keepDoesWrong : ChangeSpec := { name := "keepDoes", fn := fun _ => fun
  | [d] => { results := [.lit (.bool false)], args := [d] }
  | _ => none }
def KeepDoesWrongFalsely : Prop := keepDoesRow.holds Try.pinned (OpenSpec.ofChange keepDoesWrong)

/- THE SECOND FORM. 'bulk': how many values and letters a reading holds, each counted each time it is reached (what is shared counts as often as it is met; a slice's spare places count too). A statement '..UptoSaid' is the law's where the arguments, and the package variables that the reading takes, are together of bulk at most 1048576: NARROWER than '..Said'. Prove '..Said' where nothing that the law and all that it calls make is longer than what came in: it says more and counts as full. Else prove '..UptoSaid'. A law counts once. -/
mutual
def uptoBulk {H : Type} : DataW H → Nat
  | .lit (.string bytes) => bytes.length + 1
  | .lit _ => 1
  | .nil => 1
  | .ptr d => uptoBulk d + 1
  | .slice elems spare => uptoBulkAll elems + uptoBulkAll spare + 1
  | .agg parts => uptoBulkAll parts + 1
  | .iface _ d => uptoBulk d + 1
  | .map entries => uptoBulkEntries entries + 1
  | .held _ => 1
def uptoBulkAll {H : Type} : List (DataW H) → Nat
  | [] => 0
  | d :: r => uptoBulk d + uptoBulkAll r
def uptoBulkEntries {H : Type} : List (Lit × DataW H) → Nat
  | [] => 0
  | x :: r => uptoBulkEntry x + uptoBulkEntries r
def uptoBulkEntry {H : Type} : Lit × DataW H → Nat
  | (.string bytes, d) => bytes.length + uptoBulk d + 1
  | (_, d) => uptoBulk d + 1
 end
def uptoSmall : (H : Type) → List (DataW H) → Bool := fun _ ds => decide (uptoBulkAll ds ≤ 1048576)
def OpenSpec.upto (s : _root_.Go.ChangeSpec) : _root_.Go.OpenSpec := { _root_.Go.OpenSpec.ofChange s with cond := some uptoSmall }

/-- 'scullerlaw15.KeepLasts', WHERE WHAT IT READS IS OF BULK AT MOST 1048576: true; the input reads as it did. -/
def keepLastsUptoRow : OpenClaim := { program := "ytliohoalackhiaa", sum := "fa60b5d29984314e4919f3b3608a7f6c2555fc26f7c0e4ea837eb98ba0ff86b6", func := "sculler/scullerlaw15.KeepLasts", spec := "keepLasts", inPlace := ["maps.clone"], unfollowed := true, recurses := true, apart := false, narrowed := true }
def KeepLastsUptoSaid : Prop := keepLastsUptoRow.holds Try.pinned (OpenSpec.upto keepLastsSpec)

/-- 'scullerlaw15.KeepOrder', WHERE WHAT IT READS IS OF BULK AT MOST 1048576: true; the input reads as it did. -/
def keepOrderUptoRow : OpenClaim := { program := "ytliohoalackhiaa", sum := "fa60b5d29984314e4919f3b3608a7f6c2555fc26f7c0e4ea837eb98ba0ff86b6", func := "sculler/scullerlaw15.KeepOrder", spec := "keepOrder", inPlace := ["maps.clone"], unfollowed := true, recurses := true, apart := false, narrowed := true }
def KeepOrderUptoSaid : Prop := keepOrderUptoRow.holds Try.pinned (OpenSpec.upto keepOrderSpec)

/-- 'scullerlaw15.KeepCopy', WHERE WHAT IT READS IS OF BULK AT MOST 1048576: true; the input reads as it did. -/
def keepCopyUptoRow : OpenClaim := { program := "ytliohoalackhiaa", sum := "fa60b5d29984314e4919f3b3608a7f6c2555fc26f7c0e4ea837eb98ba0ff86b6", func := "sculler/scullerlaw15.KeepCopy", spec := "keepCopy", inPlace := ["maps.clone"], unfollowed := true, recurses := true, apart := false, narrowed := true }
def KeepCopyUptoSaid : Prop := keepCopyUptoRow.holds Try.pinned (OpenSpec.upto keepCopySpec)

/-- 'scullerlaw12.ManiTells', WHERE WHAT IT READS IS OF BULK AT MOST 1048576: true; the input reads as it did. -/
def maniTellsUptoRow : OpenClaim := { program := "ytliohoalackhiaa", sum := "fa60b5d29984314e4919f3b3608a7f6c2555fc26f7c0e4ea837eb98ba0ff86b6", func := "sculler/scullerlaw12.ManiTells", spec := "maniTells", unfollowed := true, recurses := true, apart := false, narrowed := true }
def ManiTellsUptoSaid : Prop := maniTellsUptoRow.holds Try.pinned (OpenSpec.upto maniTellsSpec)

/-- 'scullerlaw13.PackCodes', WHERE WHAT IT READS IS OF BULK AT MOST 1048576: true; the input reads as it did. -/
def packCodesUptoRow : OpenClaim := { program := "ytliohoalackhiaa", sum := "fa60b5d29984314e4919f3b3608a7f6c2555fc26f7c0e4ea837eb98ba0ff86b6", func := "sculler/scullerlaw13.PackCodes", spec := "packCodes", unfollowed := true, recurses := true, apart := false, narrowed := true }
def PackCodesUptoSaid : Prop := packCodesUptoRow.holds Try.pinned (OpenSpec.upto packCodesSpec)

/-- 'scullerlaw14.TokenCodes', WHERE WHAT IT READS IS OF BULK AT MOST 1048576: true; the input reads as it did. -/
def tokenCodesUptoRow : OpenClaim := { program := "ytliohoalackhiaa", sum := "fa60b5d29984314e4919f3b3608a7f6c2555fc26f7c0e4ea837eb98ba0ff86b6", func := "sculler/scullerlaw14.TokenCodes", spec := "tokenCodes", unfollowed := true, recurses := true, apart := false, narrowed := true }
def TokenCodesUptoSaid : Prop := tokenCodesUptoRow.holds Try.pinned (OpenSpec.upto tokenCodesSpec)

/-- 'scullerlaw12.ManiOrder', WHERE WHAT IT READS IS OF BULK AT MOST 1048576: true; the input reads as it did. -/
def maniOrderUptoRow : OpenClaim := { program := "ytliohoalackhiaa", sum := "fa60b5d29984314e4919f3b3608a7f6c2555fc26f7c0e4ea837eb98ba0ff86b6", func := "sculler/scullerlaw12.ManiOrder", spec := "maniOrder", unfollowed := true, recurses := true, apart := false, narrowed := true }
def ManiOrderUptoSaid : Prop := maniOrderUptoRow.holds Try.pinned (OpenSpec.upto maniOrderSpec)

/-- 'scullerlaw15.KeepToken', WHERE WHAT IT READS IS OF BULK AT MOST 1048576: true; the input reads as it did. -/
def keepTokenUptoRow : OpenClaim := { program := "ytliohoalackhiaa", sum := "fa60b5d29984314e4919f3b3608a7f6c2555fc26f7c0e4ea837eb98ba0ff86b6", func := "sculler/scullerlaw15.KeepToken", spec := "keepToken", inPlace := ["maps.clone"], unfollowed := true, recurses := true, apart := false, narrowed := true }
def KeepTokenUptoSaid : Prop := keepTokenUptoRow.holds Try.pinned (OpenSpec.upto keepTokenSpec)

/-- 'scullerlaw12.ManiCuts', WHERE WHAT IT READS IS OF BULK AT MOST 1048576: true; the input reads as it did. -/
def maniCutsUptoRow : OpenClaim := { program := "ytliohoalackhiaa", sum := "fa60b5d29984314e4919f3b3608a7f6c2555fc26f7c0e4ea837eb98ba0ff86b6", func := "sculler/scullerlaw12.ManiCuts", spec := "maniCuts", unfollowed := true, recurses := true, apart := false, narrowed := true }
def ManiCutsUptoSaid : Prop := maniCutsUptoRow.holds Try.pinned (OpenSpec.upto maniCutsSpec)

/-- 'scullerlaw12.ManiWhole', WHERE WHAT IT READS IS OF BULK AT MOST 1048576: true; the input reads as it did. -/
def maniWholeUptoRow : OpenClaim := { program := "ytliohoalackhiaa", sum := "fa60b5d29984314e4919f3b3608a7f6c2555fc26f7c0e4ea837eb98ba0ff86b6", func := "sculler/scullerlaw12.ManiWhole", spec := "maniWhole", unfollowed := true, recurses := true, apart := false, narrowed := true }
def ManiWholeUptoSaid : Prop := maniWholeUptoRow.holds Try.pinned (OpenSpec.upto maniWholeSpec)

/-- 'scullerlaw15.KeepDoes', WHERE WHAT IT READS IS OF BULK AT MOST 1048576: true; the input reads as it did. -/
def keepDoesUptoRow : OpenClaim := { program := "ytliohoalackhiaa", sum := "fa60b5d29984314e4919f3b3608a7f6c2555fc26f7c0e4ea837eb98ba0ff86b6", func := "sculler/scullerlaw15.KeepDoes", spec := "keepDoes", inPlace := ["maps.clone"], unfollowed := true, recurses := true, apart := false, narrowed := true }
def KeepDoesUptoSaid : Prop := keepDoesUptoRow.holds Try.pinned (OpenSpec.upto keepDoesSpec)

end Rows
end Go.Proofs.Ytliohoalackhiaa
