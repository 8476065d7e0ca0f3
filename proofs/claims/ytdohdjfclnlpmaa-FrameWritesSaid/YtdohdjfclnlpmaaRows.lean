/-
  No cell of these rows narrows 'for every input' (looked for: loops, veiled, ifaces, maps, wideKeys, modest, calm, conditions, laid).
  DERIVED. THE GIVEN ROWS OF THIS SEAT. 13 by the template 'for every input the law returns true; each argument reads behind the call as it read before'; 0 by the template 'total and deterministic' (their statements: YtdohdjfclnlpmaaTotals.lean).
  GIVEN WITH THE SEED: the statements are not yours to turn. If you find one false, say at which input.
  Laid BY PROGRAM, IN A SANDBOX (cutbox-rows.mjs): the forced cells as the released guide's own fill.sh prints them over the translation 65a54c8ee65e65e4… (all of the seat's roots in one cut). By AI agents, Wed Nov 11 2026. No macro, syntax, notation, axiom, sorry.
-/
import Derived.Test.YtdohdjfclnlpmaaChecked
import GoSem.Claim
import GoSem.ClaimJoined
import GoSem.ClaimMapViews
import Derived.JoinedTies
import Derived.KernelRfl
namespace Go.Proofs.Ytdohdjfclnlpmaa
/- THE CELL 'sum', in the pinned program and in every row, IS THE sha256 OF THE DUMP (.gsa) THAT YtdohdjfclnlpmaaProg.lean LOADS. Nothing in Lean hashes anything: it is a label: what it is worth is what the hold of that sum in a sandbox is worth. -/
noncomputable def Try.pinned : Pinned := { name := "ytdohdjfclnlpmaa", sum := "65a54c8ee65e65e44d42b8cb142dc96deec850f9102c91cbf52738d762e4f3a0", checked := Try.checked }
namespace Rows
def none {H : Type} : Left H := { results := [], args := [] }

/-- 'patchbaylaw02.FrameOuts': WHATEVER THE INPUT: true; the input reads as it did. -/
def frameOutsSpec : ChangeSpec := { name := "frameOuts", fn := fun _ => fun
  | [d1, d2, d3] => { results := [.lit (.bool true)], args := [d1, d2, d3] }
  | _ => none }
def frameOutsRow : OpenClaim := { program := "ytdohdjfclnlpmaa", sum := "65a54c8ee65e65e44d42b8cb142dc96deec850f9102c91cbf52738d762e4f3a0", func := "patchbay/patchbaylaw02.FrameOuts", spec := "frameOuts", apart := false }
def FrameOutsSaid : Prop := frameOutsRow.holds Try.pinned (OpenSpec.ofChange frameOutsSpec)

/-- ITS FALSE NEIGHBOUR: 'it returns false'. Refute it at one input. -/
def frameOutsWrong : ChangeSpec := { name := "frameOuts", fn := fun _ => fun
  | [d1, d2, d3] => { results := [.lit (.bool false)], args := [d1, d2, d3] }
  | _ => none }
def FrameOutsWrongFalsely : Prop := frameOutsRow.holds Try.pinned (OpenSpec.ofChange frameOutsWrong)

/-- 'patchbaylaw02.FrameBack': WHATEVER THE INPUT: true; the input reads as it did. -/
def frameBackSpec : ChangeSpec := { name := "frameBack", fn := fun _ => fun
  | [d1, d2, d3] => { results := [.lit (.bool true)], args := [d1, d2, d3] }
  | _ => none }
def frameBackRow : OpenClaim := { program := "ytdohdjfclnlpmaa", sum := "65a54c8ee65e65e44d42b8cb142dc96deec850f9102c91cbf52738d762e4f3a0", func := "patchbay/patchbaylaw02.FrameBack", spec := "frameBack", apart := false }
def FrameBackSaid : Prop := frameBackRow.holds Try.pinned (OpenSpec.ofChange frameBackSpec)

/-- ITS FALSE NEIGHBOUR: 'it returns false'. Refute it at one input. -/
def frameBackWrong : ChangeSpec := { name := "frameBack", fn := fun _ => fun
  | [d1, d2, d3] => { results := [.lit (.bool false)], args := [d1, d2, d3] }
  | _ => none }
def FrameBackWrongFalsely : Prop := frameBackRow.holds Try.pinned (OpenSpec.ofChange frameBackWrong)

/-- 'patchbaylaw02.FrameLengths': WHATEVER THE INPUT: true; the input reads as it did. -/
def frameLengthsSpec : ChangeSpec := { name := "frameLengths", fn := fun _ => fun
  | [d1, d2] => { results := [.lit (.bool true)], args := [d1, d2] }
  | _ => none }
def frameLengthsRow : OpenClaim := { program := "ytdohdjfclnlpmaa", sum := "65a54c8ee65e65e44d42b8cb142dc96deec850f9102c91cbf52738d762e4f3a0", func := "patchbay/patchbaylaw02.FrameLengths", spec := "frameLengths", apart := false }
def FrameLengthsSaid : Prop := frameLengthsRow.holds Try.pinned (OpenSpec.ofChange frameLengthsSpec)

/-- ITS FALSE NEIGHBOUR: 'it returns false'. Refute it at one input. -/
def frameLengthsWrong : ChangeSpec := { name := "frameLengths", fn := fun _ => fun
  | [d1, d2] => { results := [.lit (.bool false)], args := [d1, d2] }
  | _ => none }
def FrameLengthsWrongFalsely : Prop := frameLengthsRow.holds Try.pinned (OpenSpec.ofChange frameLengthsWrong)

/-- 'patchbaylaw02.FramePairs': WHATEVER THE INPUT: true; the input reads as it did. -/
def framePairsSpec : ChangeSpec := { name := "framePairs", fn := fun _ => fun
  | [d1, d2] => { results := [.lit (.bool true)], args := [d1, d2] }
  | _ => none }
def framePairsRow : OpenClaim := { program := "ytdohdjfclnlpmaa", sum := "65a54c8ee65e65e44d42b8cb142dc96deec850f9102c91cbf52738d762e4f3a0", func := "patchbay/patchbaylaw02.FramePairs", spec := "framePairs", apart := false }
def FramePairsSaid : Prop := framePairsRow.holds Try.pinned (OpenSpec.ofChange framePairsSpec)

/-- ITS FALSE NEIGHBOUR: 'it returns false'. Refute it at one input. -/
def framePairsWrong : ChangeSpec := { name := "framePairs", fn := fun _ => fun
  | [d1, d2] => { results := [.lit (.bool false)], args := [d1, d2] }
  | _ => none }
def FramePairsWrongFalsely : Prop := framePairsRow.holds Try.pinned (OpenSpec.ofChange framePairsWrong)

/-- 'patchbaylaw02.FrameTags': WHATEVER THE INPUT: true; the input reads as it did. -/
def frameTagsSpec : ChangeSpec := { name := "frameTags", fn := fun _ => fun
  | [d] => { results := [.lit (.bool true)], args := [d] }
  | _ => none }
def frameTagsRow : OpenClaim := { program := "ytdohdjfclnlpmaa", sum := "65a54c8ee65e65e44d42b8cb142dc96deec850f9102c91cbf52738d762e4f3a0", func := "patchbay/patchbaylaw02.FrameTags", spec := "frameTags", apart := false }
def FrameTagsSaid : Prop := frameTagsRow.holds Try.pinned (OpenSpec.ofChange frameTagsSpec)

/-- ITS FALSE NEIGHBOUR: 'it returns false'. Refute it at one input. -/
def frameTagsWrong : ChangeSpec := { name := "frameTags", fn := fun _ => fun
  | [d] => { results := [.lit (.bool false)], args := [d] }
  | _ => none }
def FrameTagsWrongFalsely : Prop := frameTagsRow.holds Try.pinned (OpenSpec.ofChange frameTagsWrong)

/-- 'patchbaylaw01.MacTexts': WHATEVER THE INPUT: true; the input reads as it did. -/
def macTextsSpec : ChangeSpec := { name := "macTexts", fn := fun _ => fun
  | [d] => { results := [.lit (.bool true)], args := [d] }
  | _ => none }
def macTextsRow : OpenClaim := { program := "ytdohdjfclnlpmaa", sum := "65a54c8ee65e65e44d42b8cb142dc96deec850f9102c91cbf52738d762e4f3a0", func := "patchbay/patchbaylaw01.MacTexts", spec := "macTexts", inPlace := ["internal/abi.NoEscape", "internal/bytealg.IndexByteString"], apart := false }
def MacTextsSaid : Prop := macTextsRow.holds Try.pinned (OpenSpec.ofChange macTextsSpec)

/-- ITS FALSE NEIGHBOUR: 'it returns false'. Refute it at one input. -/
def macTextsWrong : ChangeSpec := { name := "macTexts", fn := fun _ => fun
  | [d] => { results := [.lit (.bool false)], args := [d] }
  | _ => none }
def MacTextsWrongFalsely : Prop := macTextsRow.holds Try.pinned (OpenSpec.ofChange macTextsWrong)

/-- 'patchbaylaw01.MacParses': WHATEVER THE INPUT: true; the input reads as it did. -/
def macParsesSpec : ChangeSpec := { name := "macParses", fn := fun _ => fun
  | [d] => { results := [.lit (.bool true)], args := [d] }
  | _ => none }
def macParsesRow : OpenClaim := { program := "ytdohdjfclnlpmaa", sum := "65a54c8ee65e65e44d42b8cb142dc96deec850f9102c91cbf52738d762e4f3a0", func := "patchbay/patchbaylaw01.MacParses", spec := "macParses", inPlace := ["internal/bytealg.IndexByteString", "internal/abi.NoEscape"], apart := false }
def MacParsesSaid : Prop := macParsesRow.holds Try.pinned (OpenSpec.ofChange macParsesSpec)

/-- ITS FALSE NEIGHBOUR: 'it returns false'. Refute it at one input. -/
def macParsesWrong : ChangeSpec := { name := "macParses", fn := fun _ => fun
  | [d] => { results := [.lit (.bool false)], args := [d] }
  | _ => none }
def MacParsesWrongFalsely : Prop := macParsesRow.holds Try.pinned (OpenSpec.ofChange macParsesWrong)

/-- 'patchbaylaw01.MacSpoils': WHATEVER THE INPUT: true; the input reads as it did. -/
def macSpoilsSpec : ChangeSpec := { name := "macSpoils", fn := fun _ => fun
  | [d1, d2, d3] => { results := [.lit (.bool true)], args := [d1, d2, d3] }
  | _ => none }
def macSpoilsRow : OpenClaim := { program := "ytdohdjfclnlpmaa", sum := "65a54c8ee65e65e44d42b8cb142dc96deec850f9102c91cbf52738d762e4f3a0", func := "patchbay/patchbaylaw01.MacSpoils", spec := "macSpoils", inPlace := ["internal/bytealg.IndexByteString", "internal/abi.NoEscape"], apart := false }
def MacSpoilsSaid : Prop := macSpoilsRow.holds Try.pinned (OpenSpec.ofChange macSpoilsSpec)

/-- ITS FALSE NEIGHBOUR: 'it returns false'. Refute it at one input. -/
def macSpoilsWrong : ChangeSpec := { name := "macSpoils", fn := fun _ => fun
  | [d1, d2, d3] => { results := [.lit (.bool false)], args := [d1, d2, d3] }
  | _ => none }
def MacSpoilsWrongFalsely : Prop := macSpoilsRow.holds Try.pinned (OpenSpec.ofChange macSpoilsWrong)

/-- 'patchbaylaw01.MacKinds': WHATEVER THE INPUT: true; the input reads as it did. -/
def macKindsSpec : ChangeSpec := { name := "macKinds", fn := fun _ => fun
  | [d] => { results := [.lit (.bool true)], args := [d] }
  | _ => none }
def macKindsRow : OpenClaim := { program := "ytdohdjfclnlpmaa", sum := "65a54c8ee65e65e44d42b8cb142dc96deec850f9102c91cbf52738d762e4f3a0", func := "patchbay/patchbaylaw01.MacKinds", spec := "macKinds", inPlace := ["internal/bytealg.IndexByteString", "internal/abi.NoEscape"], apart := false }
def MacKindsSaid : Prop := macKindsRow.holds Try.pinned (OpenSpec.ofChange macKindsSpec)

/-- ITS FALSE NEIGHBOUR: 'it returns false'. Refute it at one input. -/
def macKindsWrong : ChangeSpec := { name := "macKinds", fn := fun _ => fun
  | [d] => { results := [.lit (.bool false)], args := [d] }
  | _ => none }
def MacKindsWrongFalsely : Prop := macKindsRow.holds Try.pinned (OpenSpec.ofChange macKindsWrong)

/-- 'patchbaylaw01.MacBytes': WHATEVER THE INPUT: true; the input reads as it did. -/
def macBytesSpec : ChangeSpec := { name := "macBytes", fn := fun _ => fun
  | [d1, d2] => { results := [.lit (.bool true)], args := [d1, d2] }
  | _ => none }
def macBytesRow : OpenClaim := { program := "ytdohdjfclnlpmaa", sum := "65a54c8ee65e65e44d42b8cb142dc96deec850f9102c91cbf52738d762e4f3a0", func := "patchbay/patchbaylaw01.MacBytes", spec := "macBytes", inPlace := ["internal/bytealg.IndexByteString", "internal/abi.NoEscape"], apart := false }
def MacBytesSaid : Prop := macBytesRow.holds Try.pinned (OpenSpec.ofChange macBytesSpec)

/-- ITS FALSE NEIGHBOUR: 'it returns false'. Refute it at one input. -/
def macBytesWrong : ChangeSpec := { name := "macBytes", fn := fun _ => fun
  | [d1, d2] => { results := [.lit (.bool false)], args := [d1, d2] }
  | _ => none }
def MacBytesWrongFalsely : Prop := macBytesRow.holds Try.pinned (OpenSpec.ofChange macBytesWrong)

/-- 'patchbaylaw02.FrameParses': WHATEVER THE INPUT: true; the input reads as it did. -/
def frameParsesSpec : ChangeSpec := { name := "frameParses", fn := fun _ => fun
  | [d] => { results := [.lit (.bool true)], args := [d] }
  | _ => none }
def frameParsesRow : OpenClaim := { program := "ytdohdjfclnlpmaa", sum := "65a54c8ee65e65e44d42b8cb142dc96deec850f9102c91cbf52738d762e4f3a0", func := "patchbay/patchbaylaw02.FrameParses", spec := "frameParses", apart := false }
def FrameParsesSaid : Prop := frameParsesRow.holds Try.pinned (OpenSpec.ofChange frameParsesSpec)

/-- ITS FALSE NEIGHBOUR: 'it returns false'. Refute it at one input. -/
def frameParsesWrong : ChangeSpec := { name := "frameParses", fn := fun _ => fun
  | [d] => { results := [.lit (.bool false)], args := [d] }
  | _ => none }
def FrameParsesWrongFalsely : Prop := frameParsesRow.holds Try.pinned (OpenSpec.ofChange frameParsesWrong)

/-- 'patchbaylaw02.FrameWrites': WHATEVER THE INPUT: true; the input reads as it did. -/
def frameWritesSpec : ChangeSpec := { name := "frameWrites", fn := fun _ => fun
  | [d] => { results := [.lit (.bool true)], args := [d] }
  | _ => none }
def frameWritesRow : OpenClaim := { program := "ytdohdjfclnlpmaa", sum := "65a54c8ee65e65e44d42b8cb142dc96deec850f9102c91cbf52738d762e4f3a0", func := "patchbay/patchbaylaw02.FrameWrites", spec := "frameWrites", apart := false }
def FrameWritesSaid : Prop := frameWritesRow.holds Try.pinned (OpenSpec.ofChange frameWritesSpec)

/-- ITS FALSE NEIGHBOUR: 'it returns false'. Refute it at one input. -/
def frameWritesWrong : ChangeSpec := { name := "frameWrites", fn := fun _ => fun
  | [d] => { results := [.lit (.bool false)], args := [d] }
  | _ => none }
def FrameWritesWrongFalsely : Prop := frameWritesRow.holds Try.pinned (OpenSpec.ofChange frameWritesWrong)

/-- 'patchbaylaw02.FrameTypes': WHATEVER THE INPUT: true; the input reads as it did. -/
def frameTypesSpec : ChangeSpec := { name := "frameTypes", fn := fun _ => fun
  | [d1, d2] => { results := [.lit (.bool true)], args := [d1, d2] }
  | _ => none }
def frameTypesRow : OpenClaim := { program := "ytdohdjfclnlpmaa", sum := "65a54c8ee65e65e44d42b8cb142dc96deec850f9102c91cbf52738d762e4f3a0", func := "patchbay/patchbaylaw02.FrameTypes", spec := "frameTypes", apart := false }
def FrameTypesSaid : Prop := frameTypesRow.holds Try.pinned (OpenSpec.ofChange frameTypesSpec)

/-- ITS FALSE NEIGHBOUR: 'it returns false'. Refute it at one input. -/
def frameTypesWrong : ChangeSpec := { name := "frameTypes", fn := fun _ => fun
  | [d1, d2] => { results := [.lit (.bool false)], args := [d1, d2] }
  | _ => none }
def FrameTypesWrongFalsely : Prop := frameTypesRow.holds Try.pinned (OpenSpec.ofChange frameTypesWrong)

/- THE SECOND FORM. 'bulk': how many values and letters a reading holds, each counted each time it is reached (what is shared counts as often as it is met; a slice's spare places count too). A statement '..UptoSaid' is the law's where the arguments, and the package variables that the reading takes, are together of bulk at most 1048576: NARROWER than '..Said'. Prove '..Said' where nothing that the law and all that it calls make is longer than what came in: it says more and counts as full. Else prove '..UptoSaid'. A law counts once. -/
mutual
def uptoBulk {H : Type} : DataW H → Nat
  | .lit (.string bytes) => bytes.length + 1
  | .lit _ => 1
  | .nil => 1
  | .ptr d => uptoBulk d + 1
  | .slice elems spare => uptoBulkAll elems + uptoBulkAll spare + 1
  | .agg parts => uptoBulkAll parts + 1
  | .iface _ d => uptoBulk d + 1
  | .map entries => uptoBulkEntries entries + 1
  | .held _ => 1
def uptoBulkAll {H : Type} : List (DataW H) → Nat
  | [] => 0
  | d :: r => uptoBulk d + uptoBulkAll r
def uptoBulkEntries {H : Type} : List (Lit × DataW H) → Nat
  | [] => 0
  | x :: r => uptoBulkEntry x + uptoBulkEntries r
def uptoBulkEntry {H : Type} : Lit × DataW H → Nat
  | (.string bytes, d) => bytes.length + uptoBulk d + 1
  | (_, d) => uptoBulk d + 1
 end
def uptoSmall : (H : Type) → List (DataW H) → Bool := fun _ ds => decide (uptoBulkAll ds ≤ 1048576)
def OpenSpec.upto (s : _root_.Go.ChangeSpec) : _root_.Go.OpenSpec := { _root_.Go.OpenSpec.ofChange s with cond := some uptoSmall }

/-- 'patchbaylaw02.FrameOuts', WHERE WHAT IT READS IS OF BULK AT MOST 1048576: true; the input reads as it did. -/
def frameOutsUptoRow : OpenClaim := { program := "ytdohdjfclnlpmaa", sum := "65a54c8ee65e65e44d42b8cb142dc96deec850f9102c91cbf52738d762e4f3a0", func := "patchbay/patchbaylaw02.FrameOuts", spec := "frameOuts", apart := false, narrowed := true }
def FrameOutsUptoSaid : Prop := frameOutsUptoRow.holds Try.pinned (OpenSpec.upto frameOutsSpec)

/-- 'patchbaylaw02.FrameBack', WHERE WHAT IT READS IS OF BULK AT MOST 1048576: true; the input reads as it did. -/
def frameBackUptoRow : OpenClaim := { program := "ytdohdjfclnlpmaa", sum := "65a54c8ee65e65e44d42b8cb142dc96deec850f9102c91cbf52738d762e4f3a0", func := "patchbay/patchbaylaw02.FrameBack", spec := "frameBack", apart := false, narrowed := true }
def FrameBackUptoSaid : Prop := frameBackUptoRow.holds Try.pinned (OpenSpec.upto frameBackSpec)

/-- 'patchbaylaw02.FrameLengths', WHERE WHAT IT READS IS OF BULK AT MOST 1048576: true; the input reads as it did. -/
def frameLengthsUptoRow : OpenClaim := { program := "ytdohdjfclnlpmaa", sum := "65a54c8ee65e65e44d42b8cb142dc96deec850f9102c91cbf52738d762e4f3a0", func := "patchbay/patchbaylaw02.FrameLengths", spec := "frameLengths", apart := false, narrowed := true }
def FrameLengthsUptoSaid : Prop := frameLengthsUptoRow.holds Try.pinned (OpenSpec.upto frameLengthsSpec)

/-- 'patchbaylaw02.FramePairs', WHERE WHAT IT READS IS OF BULK AT MOST 1048576: true; the input reads as it did. -/
def framePairsUptoRow : OpenClaim := { program := "ytdohdjfclnlpmaa", sum := "65a54c8ee65e65e44d42b8cb142dc96deec850f9102c91cbf52738d762e4f3a0", func := "patchbay/patchbaylaw02.FramePairs", spec := "framePairs", apart := false, narrowed := true }
def FramePairsUptoSaid : Prop := framePairsUptoRow.holds Try.pinned (OpenSpec.upto framePairsSpec)

/-- 'patchbaylaw02.FrameTags', WHERE WHAT IT READS IS OF BULK AT MOST 1048576: true; the input reads as it did. -/
def frameTagsUptoRow : OpenClaim := { program := "ytdohdjfclnlpmaa", sum := "65a54c8ee65e65e44d42b8cb142dc96deec850f9102c91cbf52738d762e4f3a0", func := "patchbay/patchbaylaw02.FrameTags", spec := "frameTags", apart := false, narrowed := true }
def FrameTagsUptoSaid : Prop := frameTagsUptoRow.holds Try.pinned (OpenSpec.upto frameTagsSpec)

/-- 'patchbaylaw01.MacTexts', WHERE WHAT IT READS IS OF BULK AT MOST 1048576: true; the input reads as it did. -/
def macTextsUptoRow : OpenClaim := { program := "ytdohdjfclnlpmaa", sum := "65a54c8ee65e65e44d42b8cb142dc96deec850f9102c91cbf52738d762e4f3a0", func := "patchbay/patchbaylaw01.MacTexts", spec := "macTexts", inPlace := ["internal/abi.NoEscape", "internal/bytealg.IndexByteString"], apart := false, narrowed := true }
def MacTextsUptoSaid : Prop := macTextsUptoRow.holds Try.pinned (OpenSpec.upto macTextsSpec)

/-- 'patchbaylaw01.MacParses', WHERE WHAT IT READS IS OF BULK AT MOST 1048576: true; the input reads as it did. -/
def macParsesUptoRow : OpenClaim := { program := "ytdohdjfclnlpmaa", sum := "65a54c8ee65e65e44d42b8cb142dc96deec850f9102c91cbf52738d762e4f3a0", func := "patchbay/patchbaylaw01.MacParses", spec := "macParses", inPlace := ["internal/bytealg.IndexByteString", "internal/abi.NoEscape"], apart := false, narrowed := true }
def MacParsesUptoSaid : Prop := macParsesUptoRow.holds Try.pinned (OpenSpec.upto macParsesSpec)

/-- 'patchbaylaw01.MacSpoils', WHERE WHAT IT READS IS OF BULK AT MOST 1048576: true; the input reads as it did. -/
def macSpoilsUptoRow : OpenClaim := { program := "ytdohdjfclnlpmaa", sum := "65a54c8ee65e65e44d42b8cb142dc96deec850f9102c91cbf52738d762e4f3a0", func := "patchbay/patchbaylaw01.MacSpoils", spec := "macSpoils", inPlace := ["internal/bytealg.IndexByteString", "internal/abi.NoEscape"], apart := false, narrowed := true }
def MacSpoilsUptoSaid : Prop := macSpoilsUptoRow.holds Try.pinned (OpenSpec.upto macSpoilsSpec)

/-- 'patchbaylaw01.MacKinds', WHERE WHAT IT READS IS OF BULK AT MOST 1048576: true; the input reads as it did. -/
def macKindsUptoRow : OpenClaim := { program := "ytdohdjfclnlpmaa", sum := "65a54c8ee65e65e44d42b8cb142dc96deec850f9102c91cbf52738d762e4f3a0", func := "patchbay/patchbaylaw01.MacKinds", spec := "macKinds", inPlace := ["internal/bytealg.IndexByteString", "internal/abi.NoEscape"], apart := false, narrowed := true }
def MacKindsUptoSaid : Prop := macKindsUptoRow.holds Try.pinned (OpenSpec.upto macKindsSpec)

/-- 'patchbaylaw01.MacBytes', WHERE WHAT IT READS IS OF BULK AT MOST 1048576: true; the input reads as it did. -/
def macBytesUptoRow : OpenClaim := { program := "ytdohdjfclnlpmaa", sum := "65a54c8ee65e65e44d42b8cb142dc96deec850f9102c91cbf52738d762e4f3a0", func := "patchbay/patchbaylaw01.MacBytes", spec := "macBytes", inPlace := ["internal/bytealg.IndexByteString", "internal/abi.NoEscape"], apart := false, narrowed := true }
def MacBytesUptoSaid : Prop := macBytesUptoRow.holds Try.pinned (OpenSpec.upto macBytesSpec)

/-- 'patchbaylaw02.FrameParses', WHERE WHAT IT READS IS OF BULK AT MOST 1048576: true; the input reads as it did. -/
def frameParsesUptoRow : OpenClaim := { program := "ytdohdjfclnlpmaa", sum := "65a54c8ee65e65e44d42b8cb142dc96deec850f9102c91cbf52738d762e4f3a0", func := "patchbay/patchbaylaw02.FrameParses", spec := "frameParses", apart := false, narrowed := true }
def FrameParsesUptoSaid : Prop := frameParsesUptoRow.holds Try.pinned (OpenSpec.upto frameParsesSpec)

/-- 'patchbaylaw02.FrameWrites', WHERE WHAT IT READS IS OF BULK AT MOST 1048576: true; the input reads as it did. -/
def frameWritesUptoRow : OpenClaim := { program := "ytdohdjfclnlpmaa", sum := "65a54c8ee65e65e44d42b8cb142dc96deec850f9102c91cbf52738d762e4f3a0", func := "patchbay/patchbaylaw02.FrameWrites", spec := "frameWrites", apart := false, narrowed := true }
def FrameWritesUptoSaid : Prop := frameWritesUptoRow.holds Try.pinned (OpenSpec.upto frameWritesSpec)

/-- 'patchbaylaw02.FrameTypes', WHERE WHAT IT READS IS OF BULK AT MOST 1048576: true; the input reads as it did. -/
def frameTypesUptoRow : OpenClaim := { program := "ytdohdjfclnlpmaa", sum := "65a54c8ee65e65e44d42b8cb142dc96deec850f9102c91cbf52738d762e4f3a0", func := "patchbay/patchbaylaw02.FrameTypes", spec := "frameTypes", apart := false, narrowed := true }
def FrameTypesUptoSaid : Prop := frameTypesUptoRow.holds Try.pinned (OpenSpec.upto frameTypesSpec)

end Rows
end Go.Proofs.Ytdohdjfclnlpmaa
