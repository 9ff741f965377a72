/-
  No cell of these rows narrows 'for every input' (looked for: loops, veiled, ifaces, maps, wideKeys, modest, calm, conditions, laid).
  DERIVED. THE GIVEN ROWS OF THIS SEAT. 24 by the template 'for every input the law returns true; each argument reads behind the call as it read before'; 0 by the template 'total and deterministic' (their statements: YtnmfiiejhoafnaaTotals.lean).
  GIVEN WITH THE SEED: the statements are not yours to turn. If you find one false, say at which input.
  Laid BY PROGRAM, IN A SANDBOX (cutbox-rows.mjs): the forced cells as the released guide's own fill.sh prints them over the translation cb28b0f9adb24bca… (all of the seat's roots in one cut). By AI agents, Wed Nov 11 2026. No macro, syntax, notation, axiom, sorry.
-/
import Derived.Test.YtnmfiiejhoafnaaChecked
import GoSem.Claim
import GoSem.ClaimJoined
import GoSem.ClaimMapViews
import Derived.JoinedTies
import Derived.KernelRfl
namespace Go.Proofs.Ytnmfiiejhoafnaa
/- THE CELL 'sum', in the pinned program and in every row, IS THE sha256 OF THE DUMP (.gsa) THAT YtnmfiiejhoafnaaProg.lean LOADS. Nothing in Lean hashes anything: it is a label: what it is worth is what the hold of that sum in a sandbox is worth. -/
noncomputable def Try.pinned : Pinned := { name := "ytnmfiiejhoafnaa", sum := "cb28b0f9adb24bcad7974d6a1fc4815fec37aff74e6f4a2da600cf8e1c746c8e", checked := Try.checked }
namespace Rows
def none {H : Type} : Left H := { results := [], args := [] }

/-- 'forkledgerlaw4.OnetimeDigits': WHATEVER THE INPUT: true; the input reads as it did. -/
def onetimeDigitsSpec : ChangeSpec := { name := "onetimeDigits", fn := fun _ => fun
  | [d] => { results := [.lit (.bool true)], args := [d] }
  | _ => none }
def onetimeDigitsRow : OpenClaim := { program := "ytnmfiiejhoafnaa", sum := "cb28b0f9adb24bcad7974d6a1fc4815fec37aff74e6f4a2da600cf8e1c746c8e", func := "forkledger/forkledgerlaw4.OnetimeDigits", spec := "onetimeDigits", apart := false }
def OnetimeDigitsSaid : Prop := onetimeDigitsRow.holds Try.pinned (OpenSpec.ofChange onetimeDigitsSpec)

/-- ITS FALSE NEIGHBOUR: 'it returns false'. Refute it at one input. -/
def onetimeDigitsWrong : ChangeSpec := { name := "onetimeDigits", fn := fun _ => fun
  | [d] => { results := [.lit (.bool false)], args := [d] }
  | _ => none }
def OnetimeDigitsWrongFalsely : Prop := onetimeDigitsRow.holds Try.pinned (OpenSpec.ofChange onetimeDigitsWrong)

/-- 'forkledgerlaw4.OnetimeGuards': WHATEVER THE INPUT: true; the input reads as it did. -/
def onetimeGuardsSpec : ChangeSpec := { name := "onetimeGuards", fn := fun _ => fun
  | [d1, d2] => { results := [.lit (.bool true)], args := [d1, d2] }
  | _ => none }
def onetimeGuardsRow : OpenClaim := { program := "ytnmfiiejhoafnaa", sum := "cb28b0f9adb24bcad7974d6a1fc4815fec37aff74e6f4a2da600cf8e1c746c8e", func := "forkledger/forkledgerlaw4.OnetimeGuards", spec := "onetimeGuards", apart := false }
def OnetimeGuardsSaid : Prop := onetimeGuardsRow.holds Try.pinned (OpenSpec.ofChange onetimeGuardsSpec)

/-- ITS FALSE NEIGHBOUR: 'it returns false'. Refute it at one input. -/
def onetimeGuardsWrong : ChangeSpec := { name := "onetimeGuards", fn := fun _ => fun
  | [d1, d2] => { results := [.lit (.bool false)], args := [d1, d2] }
  | _ => none }
def OnetimeGuardsWrongFalsely : Prop := onetimeGuardsRow.holds Try.pinned (OpenSpec.ofChange onetimeGuardsWrong)

/-- 'forkledgerlaw1.HashNumbers': WHATEVER THE INPUT: true; the input reads as it did. -/
def hashNumbersSpec : ChangeSpec := { name := "hashNumbers", fn := fun _ => fun
  | [d1, d2] => { results := [.lit (.bool true)], args := [d1, d2] }
  | _ => none }
def hashNumbersRow : OpenClaim := { program := "ytnmfiiejhoafnaa", sum := "cb28b0f9adb24bcad7974d6a1fc4815fec37aff74e6f4a2da600cf8e1c746c8e", func := "forkledger/forkledgerlaw1.HashNumbers", spec := "hashNumbers", apart := false }
def HashNumbersSaid : Prop := hashNumbersRow.holds Try.pinned (OpenSpec.ofChange hashNumbersSpec)

/-- ITS FALSE NEIGHBOUR: 'it returns false'. Refute it at one input. -/
def hashNumbersWrong : ChangeSpec := { name := "hashNumbers", fn := fun _ => fun
  | [d1, d2] => { results := [.lit (.bool false)], args := [d1, d2] }
  | _ => none }
def HashNumbersWrongFalsely : Prop := hashNumbersRow.holds Try.pinned (OpenSpec.ofChange hashNumbersWrong)

/-- 'forkledgerlaw1.HashOrder': WHATEVER THE INPUT: true; the input reads as it did. -/
def hashOrderSpec : ChangeSpec := { name := "hashOrder", fn := fun _ => fun
  | [d1, d2, d3] => { results := [.lit (.bool true)], args := [d1, d2, d3] }
  | _ => none }
def hashOrderRow : OpenClaim := { program := "ytnmfiiejhoafnaa", sum := "cb28b0f9adb24bcad7974d6a1fc4815fec37aff74e6f4a2da600cf8e1c746c8e", func := "forkledger/forkledgerlaw1.HashOrder", spec := "hashOrder", apart := false }
def HashOrderSaid : Prop := hashOrderRow.holds Try.pinned (OpenSpec.ofChange hashOrderSpec)

/-- ITS FALSE NEIGHBOUR: 'it returns false'. Refute it at one input. -/
def hashOrderWrong : ChangeSpec := { name := "hashOrder", fn := fun _ => fun
  | [d1, d2, d3] => { results := [.lit (.bool false)], args := [d1, d2, d3] }
  | _ => none }
def HashOrderWrongFalsely : Prop := hashOrderRow.holds Try.pinned (OpenSpec.ofChange hashOrderWrong)

/-- 'forkledgerlaw1.HashBytes': WHATEVER THE INPUT: true; the input reads as it did. -/
def hashBytesSpec : ChangeSpec := { name := "hashBytes", fn := fun _ => fun
  | [d1, d2] => { results := [.lit (.bool true)], args := [d1, d2] }
  | _ => none }
def hashBytesRow : OpenClaim := { program := "ytnmfiiejhoafnaa", sum := "cb28b0f9adb24bcad7974d6a1fc4815fec37aff74e6f4a2da600cf8e1c746c8e", func := "forkledger/forkledgerlaw1.HashBytes", spec := "hashBytes", apart := false }
def HashBytesSaid : Prop := hashBytesRow.holds Try.pinned (OpenSpec.ofChange hashBytesSpec)

/-- ITS FALSE NEIGHBOUR: 'it returns false'. Refute it at one input. -/
def hashBytesWrong : ChangeSpec := { name := "hashBytes", fn := fun _ => fun
  | [d1, d2] => { results := [.lit (.bool false)], args := [d1, d2] }
  | _ => none }
def HashBytesWrongFalsely : Prop := hashBytesRow.holds Try.pinned (OpenSpec.ofChange hashBytesWrong)

/-- 'forkledgerlaw1.HashSums': WHATEVER THE INPUT: true; the input reads as it did. -/
def hashSumsSpec : ChangeSpec := { name := "hashSums", fn := fun _ => fun
  | [d] => { results := [.lit (.bool true)], args := [d] }
  | _ => none }
def hashSumsRow : OpenClaim := { program := "ytnmfiiejhoafnaa", sum := "cb28b0f9adb24bcad7974d6a1fc4815fec37aff74e6f4a2da600cf8e1c746c8e", func := "forkledger/forkledgerlaw1.HashSums", spec := "hashSums", apart := false }
def HashSumsSaid : Prop := hashSumsRow.holds Try.pinned (OpenSpec.ofChange hashSumsSpec)

/-- ITS FALSE NEIGHBOUR: 'it returns false'. Refute it at one input. -/
def hashSumsWrong : ChangeSpec := { name := "hashSums", fn := fun _ => fun
  | [d] => { results := [.lit (.bool false)], args := [d] }
  | _ => none }
def HashSumsWrongFalsely : Prop := hashSumsRow.holds Try.pinned (OpenSpec.ofChange hashSumsWrong)

/-- 'forkledgerlaw21.StateMarks': WHATEVER THE INPUT: true; the input reads as it did. -/
def stateMarksSpec : ChangeSpec := { name := "stateMarks", fn := fun _ => fun
  | [d1, d2, d3] => { results := [.lit (.bool true)], args := [d1, d2, d3] }
  | _ => none }
def stateMarksRow : OpenClaim := { program := "ytnmfiiejhoafnaa", sum := "cb28b0f9adb24bcad7974d6a1fc4815fec37aff74e6f4a2da600cf8e1c746c8e", func := "forkledger/forkledgerlaw21.StateMarks", spec := "stateMarks", inPlace := ["slices.overlaps[forkledger/api.Delta]", "slices.overlaps[forkledger/api.Name]"], unfollowed := true, recurses := true, apart := false }
def StateMarksSaid : Prop := stateMarksRow.holds Try.pinned (OpenSpec.ofChange stateMarksSpec)

/-- ITS FALSE NEIGHBOUR: 'it returns false'. Refute it at one input. -/
def stateMarksWrong : ChangeSpec := { name := "stateMarks", fn := fun _ => fun
  | [d1, d2, d3] => { results := [.lit (.bool false)], args := [d1, d2, d3] }
  | _ => none }
def StateMarksWrongFalsely : Prop := stateMarksRow.holds Try.pinned (OpenSpec.ofChange stateMarksWrong)

/-- 'forkledgerlaw1.HashPure': WHATEVER THE INPUT: true; the input reads as it did. -/
def hashPureSpec : ChangeSpec := { name := "hashPure", fn := fun _ => fun
  | [d1, d2] => { results := [.lit (.bool true)], args := [d1, d2] }
  | _ => none }
def hashPureRow : OpenClaim := { program := "ytnmfiiejhoafnaa", sum := "cb28b0f9adb24bcad7974d6a1fc4815fec37aff74e6f4a2da600cf8e1c746c8e", func := "forkledger/forkledgerlaw1.HashPure", spec := "hashPure", apart := false }
def HashPureSaid : Prop := hashPureRow.holds Try.pinned (OpenSpec.ofChange hashPureSpec)

/-- ITS FALSE NEIGHBOUR: 'it returns false'. Refute it at one input. -/
def hashPureWrong : ChangeSpec := { name := "hashPure", fn := fun _ => fun
  | [d1, d2] => { results := [.lit (.bool false)], args := [d1, d2] }
  | _ => none }
def HashPureWrongFalsely : Prop := hashPureRow.holds Try.pinned (OpenSpec.ofChange hashPureWrong)

/-- 'forkledgerlaw1.HashTagged': WHATEVER THE INPUT: true; the input reads as it did. -/
def hashTaggedSpec : ChangeSpec := { name := "hashTagged", fn := fun _ => fun
  | [d1, d2, d3, d4] => { results := [.lit (.bool true)], args := [d1, d2, d3, d4] }
  | _ => none }
def hashTaggedRow : OpenClaim := { program := "ytnmfiiejhoafnaa", sum := "cb28b0f9adb24bcad7974d6a1fc4815fec37aff74e6f4a2da600cf8e1c746c8e", func := "forkledger/forkledgerlaw1.HashTagged", spec := "hashTagged", apart := false }
def HashTaggedSaid : Prop := hashTaggedRow.holds Try.pinned (OpenSpec.ofChange hashTaggedSpec)

/-- ITS FALSE NEIGHBOUR: 'it returns false'. Refute it at one input. -/
def hashTaggedWrong : ChangeSpec := { name := "hashTagged", fn := fun _ => fun
  | [d1, d2, d3, d4] => { results := [.lit (.bool false)], args := [d1, d2, d3, d4] }
  | _ => none }
def HashTaggedWrongFalsely : Prop := hashTaggedRow.holds Try.pinned (OpenSpec.ofChange hashTaggedWrong)

/-- 'forkledgerlaw4.OnetimeChains': WHATEVER THE INPUT: true; the input reads as it did. -/
def onetimeChainsSpec : ChangeSpec := { name := "onetimeChains", fn := fun _ => fun
  | [d1, d2, d3] => { results := [.lit (.bool true)], args := [d1, d2, d3] }
  | _ => none }
def onetimeChainsRow : OpenClaim := { program := "ytnmfiiejhoafnaa", sum := "cb28b0f9adb24bcad7974d6a1fc4815fec37aff74e6f4a2da600cf8e1c746c8e", func := "forkledger/forkledgerlaw4.OnetimeChains", spec := "onetimeChains", apart := false }
def OnetimeChainsSaid : Prop := onetimeChainsRow.holds Try.pinned (OpenSpec.ofChange onetimeChainsSpec)

/-- ITS FALSE NEIGHBOUR: 'it returns false'. Refute it at one input. -/
def onetimeChainsWrong : ChangeSpec := { name := "onetimeChains", fn := fun _ => fun
  | [d1, d2, d3] => { results := [.lit (.bool false)], args := [d1, d2, d3] }
  | _ => none }
def OnetimeChainsWrongFalsely : Prop := onetimeChainsRow.holds Try.pinned (OpenSpec.ofChange onetimeChainsWrong)

/-- 'forkledgerlaw4.OnetimeRecovers': WHATEVER THE INPUT: true; the input reads as it did. -/
def onetimeRecoversSpec : ChangeSpec := { name := "onetimeRecovers", fn := fun _ => fun
  | [d1, d2] => { results := [.lit (.bool true)], args := [d1, d2] }
  | _ => none }
def onetimeRecoversRow : OpenClaim := { program := "ytnmfiiejhoafnaa", sum := "cb28b0f9adb24bcad7974d6a1fc4815fec37aff74e6f4a2da600cf8e1c746c8e", func := "forkledger/forkledgerlaw4.OnetimeRecovers", spec := "onetimeRecovers", apart := false }
def OnetimeRecoversSaid : Prop := onetimeRecoversRow.holds Try.pinned (OpenSpec.ofChange onetimeRecoversSpec)

/-- ITS FALSE NEIGHBOUR: 'it returns false'. Refute it at one input. -/
def onetimeRecoversWrong : ChangeSpec := { name := "onetimeRecovers", fn := fun _ => fun
  | [d1, d2] => { results := [.lit (.bool false)], args := [d1, d2] }
  | _ => none }
def OnetimeRecoversWrongFalsely : Prop := onetimeRecoversRow.holds Try.pinned (OpenSpec.ofChange onetimeRecoversWrong)

/-- 'forkledgerlaw4.OnetimeSigns': WHATEVER THE INPUT: true; the input reads as it did. -/
def onetimeSignsSpec : ChangeSpec := { name := "onetimeSigns", fn := fun _ => fun
  | [d1, d2] => { results := [.lit (.bool true)], args := [d1, d2] }
  | _ => none }
def onetimeSignsRow : OpenClaim := { program := "ytnmfiiejhoafnaa", sum := "cb28b0f9adb24bcad7974d6a1fc4815fec37aff74e6f4a2da600cf8e1c746c8e", func := "forkledger/forkledgerlaw4.OnetimeSigns", spec := "onetimeSigns", apart := false }
def OnetimeSignsSaid : Prop := onetimeSignsRow.holds Try.pinned (OpenSpec.ofChange onetimeSignsSpec)

/-- ITS FALSE NEIGHBOUR: 'it returns false'. Refute it at one input. -/
def onetimeSignsWrong : ChangeSpec := { name := "onetimeSigns", fn := fun _ => fun
  | [d1, d2] => { results := [.lit (.bool false)], args := [d1, d2] }
  | _ => none }
def OnetimeSignsWrongFalsely : Prop := onetimeSignsRow.holds Try.pinned (OpenSpec.ofChange onetimeSignsWrong)

/-- 'forkledgerlaw4.OnetimeVerifies': WHATEVER THE INPUT: true; the input reads as it did. -/
def onetimeVerifiesSpec : ChangeSpec := { name := "onetimeVerifies", fn := fun _ => fun
  | [d1, d2] => { results := [.lit (.bool true)], args := [d1, d2] }
  | _ => none }
def onetimeVerifiesRow : OpenClaim := { program := "ytnmfiiejhoafnaa", sum := "cb28b0f9adb24bcad7974d6a1fc4815fec37aff74e6f4a2da600cf8e1c746c8e", func := "forkledger/forkledgerlaw4.OnetimeVerifies", spec := "onetimeVerifies", apart := false }
def OnetimeVerifiesSaid : Prop := onetimeVerifiesRow.holds Try.pinned (OpenSpec.ofChange onetimeVerifiesSpec)

/-- ITS FALSE NEIGHBOUR: 'it returns false'. Refute it at one input. -/
def onetimeVerifiesWrong : ChangeSpec := { name := "onetimeVerifies", fn := fun _ => fun
  | [d1, d2] => { results := [.lit (.bool false)], args := [d1, d2] }
  | _ => none }
def OnetimeVerifiesWrongFalsely : Prop := onetimeVerifiesRow.holds Try.pinned (OpenSpec.ofChange onetimeVerifiesWrong)

/-- 'forkledgerlaw3.MerkleDepths': WHATEVER THE INPUT: true; the input reads as it did. -/
def merkleDepthsSpec : ChangeSpec := { name := "merkleDepths", fn := fun _ => fun
  | [d1, d2] => { results := [.lit (.bool true)], args := [d1, d2] }
  | _ => none }
def merkleDepthsRow : OpenClaim := { program := "ytnmfiiejhoafnaa", sum := "cb28b0f9adb24bcad7974d6a1fc4815fec37aff74e6f4a2da600cf8e1c746c8e", func := "forkledger/forkledgerlaw3.MerkleDepths", spec := "merkleDepths", recurses := true, apart := false }
def MerkleDepthsSaid : Prop := merkleDepthsRow.holds Try.pinned (OpenSpec.ofChange merkleDepthsSpec)

/-- ITS FALSE NEIGHBOUR: 'it returns false'. Refute it at one input. -/
def merkleDepthsWrong : ChangeSpec := { name := "merkleDepths", fn := fun _ => fun
  | [d1, d2] => { results := [.lit (.bool false)], args := [d1, d2] }
  | _ => none }
def MerkleDepthsWrongFalsely : Prop := merkleDepthsRow.holds Try.pinned (OpenSpec.ofChange merkleDepthsWrong)

/-- 'forkledgerlaw3.MerkleFollows': WHATEVER THE INPUT: true; the input reads as it did. -/
def merkleFollowsSpec : ChangeSpec := { name := "merkleFollows", fn := fun _ => fun
  | [d1, d2, d3, d4, d5] => { results := [.lit (.bool true)], args := [d1, d2, d3, d4, d5] }
  | _ => none }
def merkleFollowsRow : OpenClaim := { program := "ytnmfiiejhoafnaa", sum := "cb28b0f9adb24bcad7974d6a1fc4815fec37aff74e6f4a2da600cf8e1c746c8e", func := "forkledger/forkledgerlaw3.MerkleFollows", spec := "merkleFollows", recurses := true, apart := false }
def MerkleFollowsSaid : Prop := merkleFollowsRow.holds Try.pinned (OpenSpec.ofChange merkleFollowsSpec)

/-- ITS FALSE NEIGHBOUR: 'it returns false'. Refute it at one input. -/
def merkleFollowsWrong : ChangeSpec := { name := "merkleFollows", fn := fun _ => fun
  | [d1, d2, d3, d4, d5] => { results := [.lit (.bool false)], args := [d1, d2, d3, d4, d5] }
  | _ => none }
def MerkleFollowsWrongFalsely : Prop := merkleFollowsRow.holds Try.pinned (OpenSpec.ofChange merkleFollowsWrong)

/-- 'forkledgerlaw3.MerkleSplits': WHATEVER THE INPUT: true; the input reads as it did. -/
def merkleSplitsSpec : ChangeSpec := { name := "merkleSplits", fn := fun _ => fun
  | [d] => { results := [.lit (.bool true)], args := [d] }
  | _ => none }
def merkleSplitsRow : OpenClaim := { program := "ytnmfiiejhoafnaa", sum := "cb28b0f9adb24bcad7974d6a1fc4815fec37aff74e6f4a2da600cf8e1c746c8e", func := "forkledger/forkledgerlaw3.MerkleSplits", spec := "merkleSplits", recurses := true, apart := false }
def MerkleSplitsSaid : Prop := merkleSplitsRow.holds Try.pinned (OpenSpec.ofChange merkleSplitsSpec)

/-- ITS FALSE NEIGHBOUR: 'it returns false'. Refute it at one input. -/
def merkleSplitsWrong : ChangeSpec := { name := "merkleSplits", fn := fun _ => fun
  | [d] => { results := [.lit (.bool false)], args := [d] }
  | _ => none }
def MerkleSplitsWrongFalsely : Prop := merkleSplitsRow.holds Try.pinned (OpenSpec.ofChange merkleSplitsWrong)

/-- 'forkledgerlaw3.MerkleBinds': WHATEVER THE INPUT: true; the input reads as it did. -/
def merkleBindsSpec : ChangeSpec := { name := "merkleBinds", fn := fun _ => fun
  | [d1, d2, d3, d4, d5, d6, d7] => { results := [.lit (.bool true)], args := [d1, d2, d3, d4, d5, d6, d7] }
  | _ => none }
def merkleBindsRow : OpenClaim := { program := "ytnmfiiejhoafnaa", sum := "cb28b0f9adb24bcad7974d6a1fc4815fec37aff74e6f4a2da600cf8e1c746c8e", func := "forkledger/forkledgerlaw3.MerkleBinds", spec := "merkleBinds", recurses := true, apart := false }
def MerkleBindsSaid : Prop := merkleBindsRow.holds Try.pinned (OpenSpec.ofChange merkleBindsSpec)

/-- ITS FALSE NEIGHBOUR: 'it returns false'. Refute it at one input. -/
def merkleBindsWrong : ChangeSpec := { name := "merkleBinds", fn := fun _ => fun
  | [d1, d2, d3, d4, d5, d6, d7] => { results := [.lit (.bool false)], args := [d1, d2, d3, d4, d5, d6, d7] }
  | _ => none }
def MerkleBindsWrongFalsely : Prop := merkleBindsRow.holds Try.pinned (OpenSpec.ofChange merkleBindsWrong)

/-- 'forkledgerlaw3.MerkleRoots': WHATEVER THE INPUT: true; the input reads as it did. -/
def merkleRootsSpec : ChangeSpec := { name := "merkleRoots", fn := fun _ => fun
  | [d1, d2] => { results := [.lit (.bool true)], args := [d1, d2] }
  | _ => none }
def merkleRootsRow : OpenClaim := { program := "ytnmfiiejhoafnaa", sum := "cb28b0f9adb24bcad7974d6a1fc4815fec37aff74e6f4a2da600cf8e1c746c8e", func := "forkledger/forkledgerlaw3.MerkleRoots", spec := "merkleRoots", recurses := true, apart := false }
def MerkleRootsSaid : Prop := merkleRootsRow.holds Try.pinned (OpenSpec.ofChange merkleRootsSpec)

/-- ITS FALSE NEIGHBOUR: 'it returns false'. Refute it at one input. -/
def merkleRootsWrong : ChangeSpec := { name := "merkleRoots", fn := fun _ => fun
  | [d1, d2] => { results := [.lit (.bool false)], args := [d1, d2] }
  | _ => none }
def MerkleRootsWrongFalsely : Prop := merkleRootsRow.holds Try.pinned (OpenSpec.ofChange merkleRootsWrong)

/-- 'forkledgerlaw3.MerkleIncludes': WHATEVER THE INPUT: true; the input reads as it did. -/
def merkleIncludesSpec : ChangeSpec := { name := "merkleIncludes", fn := fun _ => fun
  | [d1, d2] => { results := [.lit (.bool true)], args := [d1, d2] }
  | _ => none }
def merkleIncludesRow : OpenClaim := { program := "ytnmfiiejhoafnaa", sum := "cb28b0f9adb24bcad7974d6a1fc4815fec37aff74e6f4a2da600cf8e1c746c8e", func := "forkledger/forkledgerlaw3.MerkleIncludes", spec := "merkleIncludes", recurses := true, apart := false }
def MerkleIncludesSaid : Prop := merkleIncludesRow.holds Try.pinned (OpenSpec.ofChange merkleIncludesSpec)

/-- ITS FALSE NEIGHBOUR: 'it returns false'. Refute it at one input. -/
def merkleIncludesWrong : ChangeSpec := { name := "merkleIncludes", fn := fun _ => fun
  | [d1, d2] => { results := [.lit (.bool false)], args := [d1, d2] }
  | _ => none }
def MerkleIncludesWrongFalsely : Prop := merkleIncludesRow.holds Try.pinned (OpenSpec.ofChange merkleIncludesWrong)

/-- 'forkledgerlaw3.MerkleShares': WHATEVER THE INPUT: true; the input reads as it did. -/
def merkleSharesSpec : ChangeSpec := { name := "merkleShares", fn := fun _ => fun
  | [d1, d2, d3] => { results := [.lit (.bool true)], args := [d1, d2, d3] }
  | _ => none }
def merkleSharesRow : OpenClaim := { program := "ytnmfiiejhoafnaa", sum := "cb28b0f9adb24bcad7974d6a1fc4815fec37aff74e6f4a2da600cf8e1c746c8e", func := "forkledger/forkledgerlaw3.MerkleShares", spec := "merkleShares", recurses := true, apart := false }
def MerkleSharesSaid : Prop := merkleSharesRow.holds Try.pinned (OpenSpec.ofChange merkleSharesSpec)

/-- ITS FALSE NEIGHBOUR: 'it returns false'. Refute it at one input. -/
def merkleSharesWrong : ChangeSpec := { name := "merkleShares", fn := fun _ => fun
  | [d1, d2, d3] => { results := [.lit (.bool false)], args := [d1, d2, d3] }
  | _ => none }
def MerkleSharesWrongFalsely : Prop := merkleSharesRow.holds Try.pinned (OpenSpec.ofChange merkleSharesWrong)

/-- 'forkledgerlaw21.StateCompare': WHATEVER THE INPUT: true; the input reads as it did. -/
def stateCompareSpec : ChangeSpec := { name := "stateCompare", fn := fun _ => fun
  | [d1, d2, d3] => { results := [.lit (.bool true)], args := [d1, d2, d3] }
  | _ => none }
def stateCompareRow : OpenClaim := { program := "ytnmfiiejhoafnaa", sum := "cb28b0f9adb24bcad7974d6a1fc4815fec37aff74e6f4a2da600cf8e1c746c8e", func := "forkledger/forkledgerlaw21.StateCompare", spec := "stateCompare", inPlace := ["slices.overlaps[forkledger/api.Delta]"], unfollowed := true, recurses := true, apart := false }
def StateCompareSaid : Prop := stateCompareRow.holds Try.pinned (OpenSpec.ofChange stateCompareSpec)

/-- ITS FALSE NEIGHBOUR: 'it returns false'. Refute it at one input. -/
def stateCompareWrong : ChangeSpec := { name := "stateCompare", fn := fun _ => fun
  | [d1, d2, d3] => { results := [.lit (.bool false)], args := [d1, d2, d3] }
  | _ => none }
def StateCompareWrongFalsely : Prop := stateCompareRow.holds Try.pinned (OpenSpec.ofChange stateCompareWrong)

/-- 'forkledgerlaw21.StateAdd': WHATEVER THE INPUT: true; the input reads as it did. -/
def stateAddSpec : ChangeSpec := { name := "stateAdd", fn := fun _ => fun
  | [d1, d2, d3] => { results := [.lit (.bool true)], args := [d1, d2, d3] }
  | _ => none }
def stateAddRow : OpenClaim := { program := "ytnmfiiejhoafnaa", sum := "cb28b0f9adb24bcad7974d6a1fc4815fec37aff74e6f4a2da600cf8e1c746c8e", func := "forkledger/forkledgerlaw21.StateAdd", spec := "stateAdd", inPlace := ["slices.overlaps[forkledger/api.Delta]"], unfollowed := true, recurses := true, apart := false }
def StateAddSaid : Prop := stateAddRow.holds Try.pinned (OpenSpec.ofChange stateAddSpec)

/-- ITS FALSE NEIGHBOUR: 'it returns false'. Refute it at one input. -/
def stateAddWrong : ChangeSpec := { name := "stateAdd", fn := fun _ => fun
  | [d1, d2, d3] => { results := [.lit (.bool false)], args := [d1, d2, d3] }
  | _ => none }
def StateAddWrongFalsely : Prop := stateAddRow.holds Try.pinned (OpenSpec.ofChange stateAddWrong)

/-- 'forkledgerlaw21.StateSums': WHATEVER THE INPUT: true; the input reads as it did. -/
def stateSumsSpec : ChangeSpec := { name := "stateSums", fn := fun _ => fun
  | [d1, d2] => { results := [.lit (.bool true)], args := [d1, d2] }
  | _ => none }
def stateSumsRow : OpenClaim := { program := "ytnmfiiejhoafnaa", sum := "cb28b0f9adb24bcad7974d6a1fc4815fec37aff74e6f4a2da600cf8e1c746c8e", func := "forkledger/forkledgerlaw21.StateSums", spec := "stateSums", inPlace := ["slices.overlaps[forkledger/api.Delta]"], unfollowed := true, recurses := true, apart := false }
def StateSumsSaid : Prop := stateSumsRow.holds Try.pinned (OpenSpec.ofChange stateSumsSpec)

/-- ITS FALSE NEIGHBOUR: 'it returns false'. Refute it at one input. -/
def stateSumsWrong : ChangeSpec := { name := "stateSums", fn := fun _ => fun
  | [d1, d2] => { results := [.lit (.bool false)], args := [d1, d2] }
  | _ => none }
def StateSumsWrongFalsely : Prop := stateSumsRow.holds Try.pinned (OpenSpec.ofChange stateSumsWrong)

/-- 'forkledgerlaw21.StateCheck': WHATEVER THE INPUT: true; the input reads as it did. -/
def stateCheckSpec : ChangeSpec := { name := "stateCheck", fn := fun _ => fun
  | [d1, d2, d3, d4] => { results := [.lit (.bool true)], args := [d1, d2, d3, d4] }
  | _ => none }
def stateCheckRow : OpenClaim := { program := "ytnmfiiejhoafnaa", sum := "cb28b0f9adb24bcad7974d6a1fc4815fec37aff74e6f4a2da600cf8e1c746c8e", func := "forkledger/forkledgerlaw21.StateCheck", spec := "stateCheck", inPlace := ["slices.overlaps[forkledger/api.Delta]"], unfollowed := true, recurses := true, apart := false }
def StateCheckSaid : Prop := stateCheckRow.holds Try.pinned (OpenSpec.ofChange stateCheckSpec)

/-- ITS FALSE NEIGHBOUR: 'it returns false'. Refute it at one input. -/
def stateCheckWrong : ChangeSpec := { name := "stateCheck", fn := fun _ => fun
  | [d1, d2, d3, d4] => { results := [.lit (.bool false)], args := [d1, d2, d3, d4] }
  | _ => none }
def StateCheckWrongFalsely : Prop := stateCheckRow.holds Try.pinned (OpenSpec.ofChange stateCheckWrong)

/- THE SECOND FORM. 'bulk': how many values and letters a reading holds, each counted each time it is reached (what is shared counts as often as it is met; a slice's spare places count too). A statement '..UptoSaid' is the law's where the arguments, and the package variables that the reading takes, are together of bulk at most 1048576: NARROWER than '..Said'. Prove '..Said' where nothing that the law and all that it calls make is longer than what came in: it says more and counts as full. Else prove '..UptoSaid'. A law counts once. -/
mutual
def uptoBulk {H : Type} : DataW H → Nat
  | .lit (.string bytes) => bytes.length + 1
  | .lit _ => 1
  | .nil => 1
  | .ptr d => uptoBulk d + 1
  | .slice elems spare => uptoBulkAll elems + uptoBulkAll spare + 1
  | .agg parts => uptoBulkAll parts + 1
  | .iface _ d => uptoBulk d + 1
  | .map entries => uptoBulkEntries entries + 1
  | .held _ => 1
def uptoBulkAll {H : Type} : List (DataW H) → Nat
  | [] => 0
  | d :: r => uptoBulk d + uptoBulkAll r
def uptoBulkEntries {H : Type} : List (Lit × DataW H) → Nat
  | [] => 0
  | x :: r => uptoBulkEntry x + uptoBulkEntries r
def uptoBulkEntry {H : Type} : Lit × DataW H → Nat
  | (.string bytes, d) => bytes.length + uptoBulk d + 1
  | (_, d) => uptoBulk d + 1
 end
def uptoSmall : (H : Type) → List (DataW H) → Bool := fun _ ds => decide (uptoBulkAll ds ≤ 1048576)
def OpenSpec.upto (s : _root_.Go.ChangeSpec) : _root_.Go.OpenSpec := { _root_.Go.OpenSpec.ofChange s with cond := some uptoSmall }

/-- 'forkledgerlaw4.OnetimeDigits', WHERE WHAT IT READS IS OF BULK AT MOST 1048576: true; the input reads as it did. -/
def onetimeDigitsUptoRow : OpenClaim := { program := "ytnmfiiejhoafnaa", sum := "cb28b0f9adb24bcad7974d6a1fc4815fec37aff74e6f4a2da600cf8e1c746c8e", func := "forkledger/forkledgerlaw4.OnetimeDigits", spec := "onetimeDigits", apart := false, narrowed := true }
def OnetimeDigitsUptoSaid : Prop := onetimeDigitsUptoRow.holds Try.pinned (OpenSpec.upto onetimeDigitsSpec)

/-- 'forkledgerlaw4.OnetimeGuards', WHERE WHAT IT READS IS OF BULK AT MOST 1048576: true; the input reads as it did. -/
def onetimeGuardsUptoRow : OpenClaim := { program := "ytnmfiiejhoafnaa", sum := "cb28b0f9adb24bcad7974d6a1fc4815fec37aff74e6f4a2da600cf8e1c746c8e", func := "forkledger/forkledgerlaw4.OnetimeGuards", spec := "onetimeGuards", apart := false, narrowed := true }
def OnetimeGuardsUptoSaid : Prop := onetimeGuardsUptoRow.holds Try.pinned (OpenSpec.upto onetimeGuardsSpec)

/-- 'forkledgerlaw1.HashNumbers', WHERE WHAT IT READS IS OF BULK AT MOST 1048576: true; the input reads as it did. -/
def hashNumbersUptoRow : OpenClaim := { program := "ytnmfiiejhoafnaa", sum := "cb28b0f9adb24bcad7974d6a1fc4815fec37aff74e6f4a2da600cf8e1c746c8e", func := "forkledger/forkledgerlaw1.HashNumbers", spec := "hashNumbers", apart := false, narrowed := true }
def HashNumbersUptoSaid : Prop := hashNumbersUptoRow.holds Try.pinned (OpenSpec.upto hashNumbersSpec)

/-- 'forkledgerlaw1.HashOrder', WHERE WHAT IT READS IS OF BULK AT MOST 1048576: true; the input reads as it did. -/
def hashOrderUptoRow : OpenClaim := { program := "ytnmfiiejhoafnaa", sum := "cb28b0f9adb24bcad7974d6a1fc4815fec37aff74e6f4a2da600cf8e1c746c8e", func := "forkledger/forkledgerlaw1.HashOrder", spec := "hashOrder", apart := false, narrowed := true }
def HashOrderUptoSaid : Prop := hashOrderUptoRow.holds Try.pinned (OpenSpec.upto hashOrderSpec)

/-- 'forkledgerlaw1.HashBytes', WHERE WHAT IT READS IS OF BULK AT MOST 1048576: true; the input reads as it did. -/
def hashBytesUptoRow : OpenClaim := { program := "ytnmfiiejhoafnaa", sum := "cb28b0f9adb24bcad7974d6a1fc4815fec37aff74e6f4a2da600cf8e1c746c8e", func := "forkledger/forkledgerlaw1.HashBytes", spec := "hashBytes", apart := false, narrowed := true }
def HashBytesUptoSaid : Prop := hashBytesUptoRow.holds Try.pinned (OpenSpec.upto hashBytesSpec)

/-- 'forkledgerlaw1.HashSums', WHERE WHAT IT READS IS OF BULK AT MOST 1048576: true; the input reads as it did. -/
def hashSumsUptoRow : OpenClaim := { program := "ytnmfiiejhoafnaa", sum := "cb28b0f9adb24bcad7974d6a1fc4815fec37aff74e6f4a2da600cf8e1c746c8e", func := "forkledger/forkledgerlaw1.HashSums", spec := "hashSums", apart := false, narrowed := true }
def HashSumsUptoSaid : Prop := hashSumsUptoRow.holds Try.pinned (OpenSpec.upto hashSumsSpec)

/-- 'forkledgerlaw21.StateMarks', WHERE WHAT IT READS IS OF BULK AT MOST 1048576: true; the input reads as it did. -/
def stateMarksUptoRow : OpenClaim := { program := "ytnmfiiejhoafnaa", sum := "cb28b0f9adb24bcad7974d6a1fc4815fec37aff74e6f4a2da600cf8e1c746c8e", func := "forkledger/forkledgerlaw21.StateMarks", spec := "stateMarks", inPlace := ["slices.overlaps[forkledger/api.Delta]", "slices.overlaps[forkledger/api.Name]"], unfollowed := true, recurses := true, apart := false, narrowed := true }
def StateMarksUptoSaid : Prop := stateMarksUptoRow.holds Try.pinned (OpenSpec.upto stateMarksSpec)

/-- 'forkledgerlaw1.HashPure', WHERE WHAT IT READS IS OF BULK AT MOST 1048576: true; the input reads as it did. -/
def hashPureUptoRow : OpenClaim := { program := "ytnmfiiejhoafnaa", sum := "cb28b0f9adb24bcad7974d6a1fc4815fec37aff74e6f4a2da600cf8e1c746c8e", func := "forkledger/forkledgerlaw1.HashPure", spec := "hashPure", apart := false, narrowed := true }
def HashPureUptoSaid : Prop := hashPureUptoRow.holds Try.pinned (OpenSpec.upto hashPureSpec)

/-- 'forkledgerlaw1.HashTagged', WHERE WHAT IT READS IS OF BULK AT MOST 1048576: true; the input reads as it did. -/
def hashTaggedUptoRow : OpenClaim := { program := "ytnmfiiejhoafnaa", sum := "cb28b0f9adb24bcad7974d6a1fc4815fec37aff74e6f4a2da600cf8e1c746c8e", func := "forkledger/forkledgerlaw1.HashTagged", spec := "hashTagged", apart := false, narrowed := true }
def HashTaggedUptoSaid : Prop := hashTaggedUptoRow.holds Try.pinned (OpenSpec.upto hashTaggedSpec)

/-- 'forkledgerlaw4.OnetimeChains', WHERE WHAT IT READS IS OF BULK AT MOST 1048576: true; the input reads as it did. -/
def onetimeChainsUptoRow : OpenClaim := { program := "ytnmfiiejhoafnaa", sum := "cb28b0f9adb24bcad7974d6a1fc4815fec37aff74e6f4a2da600cf8e1c746c8e", func := "forkledger/forkledgerlaw4.OnetimeChains", spec := "onetimeChains", apart := false, narrowed := true }
def OnetimeChainsUptoSaid : Prop := onetimeChainsUptoRow.holds Try.pinned (OpenSpec.upto onetimeChainsSpec)

/-- 'forkledgerlaw4.OnetimeRecovers', WHERE WHAT IT READS IS OF BULK AT MOST 1048576: true; the input reads as it did. -/
def onetimeRecoversUptoRow : OpenClaim := { program := "ytnmfiiejhoafnaa", sum := "cb28b0f9adb24bcad7974d6a1fc4815fec37aff74e6f4a2da600cf8e1c746c8e", func := "forkledger/forkledgerlaw4.OnetimeRecovers", spec := "onetimeRecovers", apart := false, narrowed := true }
def OnetimeRecoversUptoSaid : Prop := onetimeRecoversUptoRow.holds Try.pinned (OpenSpec.upto onetimeRecoversSpec)

/-- 'forkledgerlaw4.OnetimeSigns', WHERE WHAT IT READS IS OF BULK AT MOST 1048576: true; the input reads as it did. -/
def onetimeSignsUptoRow : OpenClaim := { program := "ytnmfiiejhoafnaa", sum := "cb28b0f9adb24bcad7974d6a1fc4815fec37aff74e6f4a2da600cf8e1c746c8e", func := "forkledger/forkledgerlaw4.OnetimeSigns", spec := "onetimeSigns", apart := false, narrowed := true }
def OnetimeSignsUptoSaid : Prop := onetimeSignsUptoRow.holds Try.pinned (OpenSpec.upto onetimeSignsSpec)

/-- 'forkledgerlaw4.OnetimeVerifies', WHERE WHAT IT READS IS OF BULK AT MOST 1048576: true; the input reads as it did. -/
def onetimeVerifiesUptoRow : OpenClaim := { program := "ytnmfiiejhoafnaa", sum := "cb28b0f9adb24bcad7974d6a1fc4815fec37aff74e6f4a2da600cf8e1c746c8e", func := "forkledger/forkledgerlaw4.OnetimeVerifies", spec := "onetimeVerifies", apart := false, narrowed := true }
def OnetimeVerifiesUptoSaid : Prop := onetimeVerifiesUptoRow.holds Try.pinned (OpenSpec.upto onetimeVerifiesSpec)

/-- 'forkledgerlaw3.MerkleDepths', WHERE WHAT IT READS IS OF BULK AT MOST 1048576: true; the input reads as it did. -/
def merkleDepthsUptoRow : OpenClaim := { program := "ytnmfiiejhoafnaa", sum := "cb28b0f9adb24bcad7974d6a1fc4815fec37aff74e6f4a2da600cf8e1c746c8e", func := "forkledger/forkledgerlaw3.MerkleDepths", spec := "merkleDepths", recurses := true, apart := false, narrowed := true }
def MerkleDepthsUptoSaid : Prop := merkleDepthsUptoRow.holds Try.pinned (OpenSpec.upto merkleDepthsSpec)

/-- 'forkledgerlaw3.MerkleFollows', WHERE WHAT IT READS IS OF BULK AT MOST 1048576: true; the input reads as it did. -/
def merkleFollowsUptoRow : OpenClaim := { program := "ytnmfiiejhoafnaa", sum := "cb28b0f9adb24bcad7974d6a1fc4815fec37aff74e6f4a2da600cf8e1c746c8e", func := "forkledger/forkledgerlaw3.MerkleFollows", spec := "merkleFollows", recurses := true, apart := false, narrowed := true }
def MerkleFollowsUptoSaid : Prop := merkleFollowsUptoRow.holds Try.pinned (OpenSpec.upto merkleFollowsSpec)

/-- 'forkledgerlaw3.MerkleSplits', WHERE WHAT IT READS IS OF BULK AT MOST 1048576: true; the input reads as it did. -/
def merkleSplitsUptoRow : OpenClaim := { program := "ytnmfiiejhoafnaa", sum := "cb28b0f9adb24bcad7974d6a1fc4815fec37aff74e6f4a2da600cf8e1c746c8e", func := "forkledger/forkledgerlaw3.MerkleSplits", spec := "merkleSplits", recurses := true, apart := false, narrowed := true }
def MerkleSplitsUptoSaid : Prop := merkleSplitsUptoRow.holds Try.pinned (OpenSpec.upto merkleSplitsSpec)

/-- 'forkledgerlaw3.MerkleBinds', WHERE WHAT IT READS IS OF BULK AT MOST 1048576: true; the input reads as it did. -/
def merkleBindsUptoRow : OpenClaim := { program := "ytnmfiiejhoafnaa", sum := "cb28b0f9adb24bcad7974d6a1fc4815fec37aff74e6f4a2da600cf8e1c746c8e", func := "forkledger/forkledgerlaw3.MerkleBinds", spec := "merkleBinds", recurses := true, apart := false, narrowed := true }
def MerkleBindsUptoSaid : Prop := merkleBindsUptoRow.holds Try.pinned (OpenSpec.upto merkleBindsSpec)

/-- 'forkledgerlaw3.MerkleRoots', WHERE WHAT IT READS IS OF BULK AT MOST 1048576: true; the input reads as it did. -/
def merkleRootsUptoRow : OpenClaim := { program := "ytnmfiiejhoafnaa", sum := "cb28b0f9adb24bcad7974d6a1fc4815fec37aff74e6f4a2da600cf8e1c746c8e", func := "forkledger/forkledgerlaw3.MerkleRoots", spec := "merkleRoots", recurses := true, apart := false, narrowed := true }
def MerkleRootsUptoSaid : Prop := merkleRootsUptoRow.holds Try.pinned (OpenSpec.upto merkleRootsSpec)

/-- 'forkledgerlaw3.MerkleIncludes', WHERE WHAT IT READS IS OF BULK AT MOST 1048576: true; the input reads as it did. -/
def merkleIncludesUptoRow : OpenClaim := { program := "ytnmfiiejhoafnaa", sum := "cb28b0f9adb24bcad7974d6a1fc4815fec37aff74e6f4a2da600cf8e1c746c8e", func := "forkledger/forkledgerlaw3.MerkleIncludes", spec := "merkleIncludes", recurses := true, apart := false, narrowed := true }
def MerkleIncludesUptoSaid : Prop := merkleIncludesUptoRow.holds Try.pinned (OpenSpec.upto merkleIncludesSpec)

/-- 'forkledgerlaw3.MerkleShares', WHERE WHAT IT READS IS OF BULK AT MOST 1048576: true; the input reads as it did. -/
def merkleSharesUptoRow : OpenClaim := { program := "ytnmfiiejhoafnaa", sum := "cb28b0f9adb24bcad7974d6a1fc4815fec37aff74e6f4a2da600cf8e1c746c8e", func := "forkledger/forkledgerlaw3.MerkleShares", spec := "merkleShares", recurses := true, apart := false, narrowed := true }
def MerkleSharesUptoSaid : Prop := merkleSharesUptoRow.holds Try.pinned (OpenSpec.upto merkleSharesSpec)

/-- 'forkledgerlaw21.StateCompare', WHERE WHAT IT READS IS OF BULK AT MOST 1048576: true; the input reads as it did. -/
def stateCompareUptoRow : OpenClaim := { program := "ytnmfiiejhoafnaa", sum := "cb28b0f9adb24bcad7974d6a1fc4815fec37aff74e6f4a2da600cf8e1c746c8e", func := "forkledger/forkledgerlaw21.StateCompare", spec := "stateCompare", inPlace := ["slices.overlaps[forkledger/api.Delta]"], unfollowed := true, recurses := true, apart := false, narrowed := true }
def StateCompareUptoSaid : Prop := stateCompareUptoRow.holds Try.pinned (OpenSpec.upto stateCompareSpec)

/-- 'forkledgerlaw21.StateAdd', WHERE WHAT IT READS IS OF BULK AT MOST 1048576: true; the input reads as it did. -/
def stateAddUptoRow : OpenClaim := { program := "ytnmfiiejhoafnaa", sum := "cb28b0f9adb24bcad7974d6a1fc4815fec37aff74e6f4a2da600cf8e1c746c8e", func := "forkledger/forkledgerlaw21.StateAdd", spec := "stateAdd", inPlace := ["slices.overlaps[forkledger/api.Delta]"], unfollowed := true, recurses := true, apart := false, narrowed := true }
def StateAddUptoSaid : Prop := stateAddUptoRow.holds Try.pinned (OpenSpec.upto stateAddSpec)

/-- 'forkledgerlaw21.StateSums', WHERE WHAT IT READS IS OF BULK AT MOST 1048576: true; the input reads as it did. -/
def stateSumsUptoRow : OpenClaim := { program := "ytnmfiiejhoafnaa", sum := "cb28b0f9adb24bcad7974d6a1fc4815fec37aff74e6f4a2da600cf8e1c746c8e", func := "forkledger/forkledgerlaw21.StateSums", spec := "stateSums", inPlace := ["slices.overlaps[forkledger/api.Delta]"], unfollowed := true, recurses := true, apart := false, narrowed := true }
def StateSumsUptoSaid : Prop := stateSumsUptoRow.holds Try.pinned (OpenSpec.upto stateSumsSpec)

/-- 'forkledgerlaw21.StateCheck', WHERE WHAT IT READS IS OF BULK AT MOST 1048576: true; the input reads as it did. -/
def stateCheckUptoRow : OpenClaim := { program := "ytnmfiiejhoafnaa", sum := "cb28b0f9adb24bcad7974d6a1fc4815fec37aff74e6f4a2da600cf8e1c746c8e", func := "forkledger/forkledgerlaw21.StateCheck", spec := "stateCheck", inPlace := ["slices.overlaps[forkledger/api.Delta]"], unfollowed := true, recurses := true, apart := false, narrowed := true }
def StateCheckUptoSaid : Prop := stateCheckUptoRow.holds Try.pinned (OpenSpec.upto stateCheckSpec)

end Rows
end Go.Proofs.Ytnmfiiejhoafnaa
