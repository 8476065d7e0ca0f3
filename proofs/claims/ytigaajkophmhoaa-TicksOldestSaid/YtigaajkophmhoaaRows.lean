/-
  No cell of these rows narrows 'for every input' (looked for: loops, veiled, ifaces, maps, wideKeys, modest, calm, conditions, laid).
  DERIVED. THE GIVEN ROWS OF THIS SEAT. 13 by the template 'for every input the law returns true; each argument reads behind the call as it read before'; 0 by the template 'total and deterministic' (their statements: YtigaajkophmhoaaTotals.lean).
  GIVEN WITH THE SEED: the statements are not yours to turn. If you find one false, say at which input.
  Laid BY PROGRAM, IN A SANDBOX (cutbox-rows.mjs): the forced cells as the released guide's own fill.sh prints them over the translation 5b06ba61ffa0895c… (all of the seat's roots in one cut). By AI agents, Wed Nov 11 2026. No macro, syntax, notation, axiom, sorry.
-/
import Derived.Test.YtigaajkophmhoaaChecked
import GoSem.Claim
import GoSem.ClaimJoined
import GoSem.ClaimMapViews
import Derived.JoinedTies
import Derived.KernelRfl
namespace Go.Proofs.Ytigaajkophmhoaa
/- THE CELL 'sum', in the pinned program and in every row, IS THE sha256 OF THE DUMP (.gsa) THAT YtigaajkophmhoaaProg.lean LOADS. Nothing in Lean hashes anything: it is a label: what it is worth is what the hold of that sum in a sandbox is worth. -/
noncomputable def Try.pinned : Pinned := { name := "ytigaajkophmhoaa", sum := "5b06ba61ffa0895c06a50c54d1a7caa50180caf5b698e2d1e49b5ea063f4084d", checked := Try.checked }
namespace Rows
def none {H : Type} : Left H := { results := [], args := [] }

/-- 'patchbaylaw04.TicksOldest': WHATEVER THE INPUT: true; the input reads as it did. -/
def ticksOldestSpec : ChangeSpec := { name := "ticksOldest", fn := fun _ => fun
  | [d1, d2] => { results := [.lit (.bool true)], args := [d1, d2] }
  | _ => none }
def ticksOldestRow : OpenClaim := { program := "ytigaajkophmhoaa", sum := "5b06ba61ffa0895c06a50c54d1a7caa50180caf5b698e2d1e49b5ea063f4084d", func := "patchbay/patchbaylaw04.TicksOldest", spec := "ticksOldest", apart := false }
def TicksOldestSaid : Prop := ticksOldestRow.holds Try.pinned (OpenSpec.ofChange ticksOldestSpec)

/-- ITS FALSE NEIGHBOUR: 'it returns false'. Refute it at one input. -/
def ticksOldestWrong : ChangeSpec := { name := "ticksOldest", fn := fun _ => fun
  | [d1, d2] => { results := [.lit (.bool false)], args := [d1, d2] }
  | _ => none }
def TicksOldestWrongFalsely : Prop := ticksOldestRow.holds Try.pinned (OpenSpec.ofChange ticksOldestWrong)

/-- 'patchbaylaw04.TicksRound': WHATEVER THE INPUT: true; the input reads as it did. -/
def ticksRoundSpec : ChangeSpec := { name := "ticksRound", fn := fun _ => fun
  | [d1, d2, d3] => { results := [.lit (.bool true)], args := [d1, d2, d3] }
  | _ => none }
def ticksRoundRow : OpenClaim := { program := "ytigaajkophmhoaa", sum := "5b06ba61ffa0895c06a50c54d1a7caa50180caf5b698e2d1e49b5ea063f4084d", func := "patchbay/patchbaylaw04.TicksRound", spec := "ticksRound", apart := false }
def TicksRoundSaid : Prop := ticksRoundRow.holds Try.pinned (OpenSpec.ofChange ticksRoundSpec)

/-- ITS FALSE NEIGHBOUR: 'it returns false'. Refute it at one input. -/
def ticksRoundWrong : ChangeSpec := { name := "ticksRound", fn := fun _ => fun
  | [d1, d2, d3] => { results := [.lit (.bool false)], args := [d1, d2, d3] }
  | _ => none }
def TicksRoundWrongFalsely : Prop := ticksRoundRow.holds Try.pinned (OpenSpec.ofChange ticksRoundWrong)

/-- 'patchbaylaw04.TicksLater': WHATEVER THE INPUT: true; the input reads as it did. -/
def ticksLaterSpec : ChangeSpec := { name := "ticksLater", fn := fun _ => fun
  | [d1, d2, d3] => { results := [.lit (.bool true)], args := [d1, d2, d3] }
  | _ => none }
def ticksLaterRow : OpenClaim := { program := "ytigaajkophmhoaa", sum := "5b06ba61ffa0895c06a50c54d1a7caa50180caf5b698e2d1e49b5ea063f4084d", func := "patchbay/patchbaylaw04.TicksLater", spec := "ticksLater", apart := false }
def TicksLaterSaid : Prop := ticksLaterRow.holds Try.pinned (OpenSpec.ofChange ticksLaterSpec)

/-- ITS FALSE NEIGHBOUR: 'it returns false'. Refute it at one input. -/
def ticksLaterWrong : ChangeSpec := { name := "ticksLater", fn := fun _ => fun
  | [d1, d2, d3] => { results := [.lit (.bool false)], args := [d1, d2, d3] }
  | _ => none }
def TicksLaterWrongFalsely : Prop := ticksLaterRow.holds Try.pinned (OpenSpec.ofChange ticksLaterWrong)

/-- 'patchbaylaw04.TicksAges': WHATEVER THE INPUT: true; the input reads as it did. -/
def ticksAgesSpec : ChangeSpec := { name := "ticksAges", fn := fun _ => fun
  | [d1, d2, d3] => { results := [.lit (.bool true)], args := [d1, d2, d3] }
  | _ => none }
def ticksAgesRow : OpenClaim := { program := "ytigaajkophmhoaa", sum := "5b06ba61ffa0895c06a50c54d1a7caa50180caf5b698e2d1e49b5ea063f4084d", func := "patchbay/patchbaylaw04.TicksAges", spec := "ticksAges", apart := false }
def TicksAgesSaid : Prop := ticksAgesRow.holds Try.pinned (OpenSpec.ofChange ticksAgesSpec)

/-- ITS FALSE NEIGHBOUR: 'it returns false'. Refute it at one input. -/
def ticksAgesWrong : ChangeSpec := { name := "ticksAges", fn := fun _ => fun
  | [d1, d2, d3] => { results := [.lit (.bool false)], args := [d1, d2, d3] }
  | _ => none }
def TicksAgesWrongFalsely : Prop := ticksAgesRow.holds Try.pinned (OpenSpec.ofChange ticksAgesWrong)

/-- 'patchbaylaw16.PortSets': WHATEVER THE INPUT: true; the input reads as it did. -/
def portSetsSpec : ChangeSpec := { name := "portSets", fn := fun _ => fun
  | [d1, d2] => { results := [.lit (.bool true)], args := [d1, d2] }
  | _ => none }
def portSetsRow : OpenClaim := { program := "ytigaajkophmhoaa", sum := "5b06ba61ffa0895c06a50c54d1a7caa50180caf5b698e2d1e49b5ea063f4084d", func := "patchbay/patchbaylaw16.PortSets", spec := "portSets", apart := false }
def PortSetsSaid : Prop := portSetsRow.holds Try.pinned (OpenSpec.ofChange portSetsSpec)

/-- ITS FALSE NEIGHBOUR: 'it returns false'. Refute it at one input. -/
def portSetsWrong : ChangeSpec := { name := "portSets", fn := fun _ => fun
  | [d1, d2] => { results := [.lit (.bool false)], args := [d1, d2] }
  | _ => none }
def PortSetsWrongFalsely : Prop := portSetsRow.holds Try.pinned (OpenSpec.ofChange portSetsWrong)

/-- 'patchbaylaw16.PortWords': WHATEVER THE INPUT: true; the input reads as it did. -/
def portWordsSpec : ChangeSpec := { name := "portWords", fn := fun _ => fun
  | [d1, d2] => { results := [.lit (.bool true)], args := [d1, d2] }
  | _ => none }
def portWordsRow : OpenClaim := { program := "ytigaajkophmhoaa", sum := "5b06ba61ffa0895c06a50c54d1a7caa50180caf5b698e2d1e49b5ea063f4084d", func := "patchbay/patchbaylaw16.PortWords", spec := "portWords", apart := false }
def PortWordsSaid : Prop := portWordsRow.holds Try.pinned (OpenSpec.ofChange portWordsSpec)

/-- ITS FALSE NEIGHBOUR: 'it returns false'. Refute it at one input. -/
def portWordsWrong : ChangeSpec := { name := "portWords", fn := fun _ => fun
  | [d1, d2] => { results := [.lit (.bool false)], args := [d1, d2] }
  | _ => none }
def PortWordsWrongFalsely : Prop := portWordsRow.holds Try.pinned (OpenSpec.ofChange portWordsWrong)

/-- 'patchbaylaw08.KeyWords': WHATEVER THE INPUT: true; the input reads as it did. -/
def keyWordsSpec : ChangeSpec := { name := "keyWords", fn := fun _ => fun
  | [d1, d2] => { results := [.lit (.bool true)], args := [d1, d2] }
  | _ => none }
def keyWordsRow : OpenClaim := { program := "ytigaajkophmhoaa", sum := "5b06ba61ffa0895c06a50c54d1a7caa50180caf5b698e2d1e49b5ea063f4084d", func := "patchbay/patchbaylaw08.KeyWords", spec := "keyWords", apart := false }
def KeyWordsSaid : Prop := keyWordsRow.holds Try.pinned (OpenSpec.ofChange keyWordsSpec)

/-- ITS FALSE NEIGHBOUR: 'it returns false'. Refute it at one input. -/
def keyWordsWrong : ChangeSpec := { name := "keyWords", fn := fun _ => fun
  | [d1, d2] => { results := [.lit (.bool false)], args := [d1, d2] }
  | _ => none }
def KeyWordsWrongFalsely : Prop := keyWordsRow.holds Try.pinned (OpenSpec.ofChange keyWordsWrong)

/-- 'patchbaylaw08.KeyBacks': WHATEVER THE INPUT: true; the input reads as it did. -/
def keyBacksSpec : ChangeSpec := { name := "keyBacks", fn := fun _ => fun
  | [d] => { results := [.lit (.bool true)], args := [d] }
  | _ => none }
def keyBacksRow : OpenClaim := { program := "ytigaajkophmhoaa", sum := "5b06ba61ffa0895c06a50c54d1a7caa50180caf5b698e2d1e49b5ea063f4084d", func := "patchbay/patchbaylaw08.KeyBacks", spec := "keyBacks", apart := false }
def KeyBacksSaid : Prop := keyBacksRow.holds Try.pinned (OpenSpec.ofChange keyBacksSpec)

/-- ITS FALSE NEIGHBOUR: 'it returns false'. Refute it at one input. -/
def keyBacksWrong : ChangeSpec := { name := "keyBacks", fn := fun _ => fun
  | [d] => { results := [.lit (.bool false)], args := [d] }
  | _ => none }
def KeyBacksWrongFalsely : Prop := keyBacksRow.holds Try.pinned (OpenSpec.ofChange keyBacksWrong)

/-- 'patchbaylaw16.PortNames': WHATEVER THE INPUT: true; the input reads as it did. -/
def portNamesSpec : ChangeSpec := { name := "portNames", fn := fun _ => fun
  | [d1, d2] => { results := [.lit (.bool true)], args := [d1, d2] }
  | _ => none }
def portNamesRow : OpenClaim := { program := "ytigaajkophmhoaa", sum := "5b06ba61ffa0895c06a50c54d1a7caa50180caf5b698e2d1e49b5ea063f4084d", func := "patchbay/patchbaylaw16.PortNames", spec := "portNames", apart := false }
def PortNamesSaid : Prop := portNamesRow.holds Try.pinned (OpenSpec.ofChange portNamesSpec)

/-- ITS FALSE NEIGHBOUR: 'it returns false'. Refute it at one input. -/
def portNamesWrong : ChangeSpec := { name := "portNames", fn := fun _ => fun
  | [d1, d2] => { results := [.lit (.bool false)], args := [d1, d2] }
  | _ => none }
def PortNamesWrongFalsely : Prop := portNamesRow.holds Try.pinned (OpenSpec.ofChange portNamesWrong)

/-- 'patchbaylaw08.KeyPlaces': WHATEVER THE INPUT: true; the input reads as it did. -/
def keyPlacesSpec : ChangeSpec := { name := "keyPlaces", fn := fun _ => fun
  | [d1, d2, d3] => { results := [.lit (.bool true)], args := [d1, d2, d3] }
  | _ => none }
def keyPlacesRow : OpenClaim := { program := "ytigaajkophmhoaa", sum := "5b06ba61ffa0895c06a50c54d1a7caa50180caf5b698e2d1e49b5ea063f4084d", func := "patchbay/patchbaylaw08.KeyPlaces", spec := "keyPlaces", apart := false }
def KeyPlacesSaid : Prop := keyPlacesRow.holds Try.pinned (OpenSpec.ofChange keyPlacesSpec)

/-- ITS FALSE NEIGHBOUR: 'it returns false'. Refute it at one input. -/
def keyPlacesWrong : ChangeSpec := { name := "keyPlaces", fn := fun _ => fun
  | [d1, d2, d3] => { results := [.lit (.bool false)], args := [d1, d2, d3] }
  | _ => none }
def KeyPlacesWrongFalsely : Prop := keyPlacesRow.holds Try.pinned (OpenSpec.ofChange keyPlacesWrong)

/-- 'patchbaylaw09.SlotWords': WHATEVER THE INPUT: true; the input reads as it did. -/
def slotWordsSpec : ChangeSpec := { name := "slotWords", fn := fun _ => fun
  | [d1, d2] => { results := [.lit (.bool true)], args := [d1, d2] }
  | _ => none }
def slotWordsRow : OpenClaim := { program := "ytigaajkophmhoaa", sum := "5b06ba61ffa0895c06a50c54d1a7caa50180caf5b698e2d1e49b5ea063f4084d", func := "patchbay/patchbaylaw09.SlotWords", spec := "slotWords", apart := false }
def SlotWordsSaid : Prop := slotWordsRow.holds Try.pinned (OpenSpec.ofChange slotWordsSpec)

/-- ITS FALSE NEIGHBOUR: 'it returns false'. Refute it at one input. -/
def slotWordsWrong : ChangeSpec := { name := "slotWords", fn := fun _ => fun
  | [d1, d2] => { results := [.lit (.bool false)], args := [d1, d2] }
  | _ => none }
def SlotWordsWrongFalsely : Prop := slotWordsRow.holds Try.pinned (OpenSpec.ofChange slotWordsWrong)

/-- 'patchbaylaw09.SlotBacks': WHATEVER THE INPUT: true; the input reads as it did. -/
def slotBacksSpec : ChangeSpec := { name := "slotBacks", fn := fun _ => fun
  | [d1, d2] => { results := [.lit (.bool true)], args := [d1, d2] }
  | _ => none }
def slotBacksRow : OpenClaim := { program := "ytigaajkophmhoaa", sum := "5b06ba61ffa0895c06a50c54d1a7caa50180caf5b698e2d1e49b5ea063f4084d", func := "patchbay/patchbaylaw09.SlotBacks", spec := "slotBacks", apart := false }
def SlotBacksSaid : Prop := slotBacksRow.holds Try.pinned (OpenSpec.ofChange slotBacksSpec)

/-- ITS FALSE NEIGHBOUR: 'it returns false'. Refute it at one input. -/
def slotBacksWrong : ChangeSpec := { name := "slotBacks", fn := fun _ => fun
  | [d1, d2] => { results := [.lit (.bool false)], args := [d1, d2] }
  | _ => none }
def SlotBacksWrongFalsely : Prop := slotBacksRow.holds Try.pinned (OpenSpec.ofChange slotBacksWrong)

/-- 'patchbaylaw09.SlotAlters': WHATEVER THE INPUT: true; the input reads as it did. -/
def slotAltersSpec : ChangeSpec := { name := "slotAlters", fn := fun _ => fun
  | [d1, d2] => { results := [.lit (.bool true)], args := [d1, d2] }
  | _ => none }
def slotAltersRow : OpenClaim := { program := "ytigaajkophmhoaa", sum := "5b06ba61ffa0895c06a50c54d1a7caa50180caf5b698e2d1e49b5ea063f4084d", func := "patchbay/patchbaylaw09.SlotAlters", spec := "slotAlters", apart := false }
def SlotAltersSaid : Prop := slotAltersRow.holds Try.pinned (OpenSpec.ofChange slotAltersSpec)

/-- ITS FALSE NEIGHBOUR: 'it returns false'. Refute it at one input. -/
def slotAltersWrong : ChangeSpec := { name := "slotAlters", fn := fun _ => fun
  | [d1, d2] => { results := [.lit (.bool false)], args := [d1, d2] }
  | _ => none }
def SlotAltersWrongFalsely : Prop := slotAltersRow.holds Try.pinned (OpenSpec.ofChange slotAltersWrong)

/- THE SECOND FORM. 'bulk': how many values and letters a reading holds, each counted each time it is reached (what is shared counts as often as it is met; a slice's spare places count too). A statement '..UptoSaid' is the law's where the arguments, and the package variables that the reading takes, are together of bulk at most 1048576: NARROWER than '..Said'. Prove '..Said' where nothing that the law and all that it calls make is longer than what came in: it says more and counts as full. Else prove '..UptoSaid'. A law counts once. -/
mutual
def uptoBulk {H : Type} : DataW H → Nat
  | .lit (.string bytes) => bytes.length + 1
  | .lit _ => 1
  | .nil => 1
  | .ptr d => uptoBulk d + 1
  | .slice elems spare => uptoBulkAll elems + uptoBulkAll spare + 1
  | .agg parts => uptoBulkAll parts + 1
  | .iface _ d => uptoBulk d + 1
  | .map entries => uptoBulkEntries entries + 1
  | .held _ => 1
def uptoBulkAll {H : Type} : List (DataW H) → Nat
  | [] => 0
  | d :: r => uptoBulk d + uptoBulkAll r
def uptoBulkEntries {H : Type} : List (Lit × DataW H) → Nat
  | [] => 0
  | x :: r => uptoBulkEntry x + uptoBulkEntries r
def uptoBulkEntry {H : Type} : Lit × DataW H → Nat
  | (.string bytes, d) => bytes.length + uptoBulk d + 1
  | (_, d) => uptoBulk d + 1
 end
def uptoSmall : (H : Type) → List (DataW H) → Bool := fun _ ds => decide (uptoBulkAll ds ≤ 1048576)
def OpenSpec.upto (s : _root_.Go.ChangeSpec) : _root_.Go.OpenSpec := { _root_.Go.OpenSpec.ofChange s with cond := some uptoSmall }

/-- 'patchbaylaw04.TicksOldest', WHERE WHAT IT READS IS OF BULK AT MOST 1048576: true; the input reads as it did. -/
def ticksOldestUptoRow : OpenClaim := { program := "ytigaajkophmhoaa", sum := "5b06ba61ffa0895c06a50c54d1a7caa50180caf5b698e2d1e49b5ea063f4084d", func := "patchbay/patchbaylaw04.TicksOldest", spec := "ticksOldest", apart := false, narrowed := true }
def TicksOldestUptoSaid : Prop := ticksOldestUptoRow.holds Try.pinned (OpenSpec.upto ticksOldestSpec)

/-- 'patchbaylaw04.TicksRound', WHERE WHAT IT READS IS OF BULK AT MOST 1048576: true; the input reads as it did. -/
def ticksRoundUptoRow : OpenClaim := { program := "ytigaajkophmhoaa", sum := "5b06ba61ffa0895c06a50c54d1a7caa50180caf5b698e2d1e49b5ea063f4084d", func := "patchbay/patchbaylaw04.TicksRound", spec := "ticksRound", apart := false, narrowed := true }
def TicksRoundUptoSaid : Prop := ticksRoundUptoRow.holds Try.pinned (OpenSpec.upto ticksRoundSpec)

/-- 'patchbaylaw04.TicksLater', WHERE WHAT IT READS IS OF BULK AT MOST 1048576: true; the input reads as it did. -/
def ticksLaterUptoRow : OpenClaim := { program := "ytigaajkophmhoaa", sum := "5b06ba61ffa0895c06a50c54d1a7caa50180caf5b698e2d1e49b5ea063f4084d", func := "patchbay/patchbaylaw04.TicksLater", spec := "ticksLater", apart := false, narrowed := true }
def TicksLaterUptoSaid : Prop := ticksLaterUptoRow.holds Try.pinned (OpenSpec.upto ticksLaterSpec)

/-- 'patchbaylaw04.TicksAges', WHERE WHAT IT READS IS OF BULK AT MOST 1048576: true; the input reads as it did. -/
def ticksAgesUptoRow : OpenClaim := { program := "ytigaajkophmhoaa", sum := "5b06ba61ffa0895c06a50c54d1a7caa50180caf5b698e2d1e49b5ea063f4084d", func := "patchbay/patchbaylaw04.TicksAges", spec := "ticksAges", apart := false, narrowed := true }
def TicksAgesUptoSaid : Prop := ticksAgesUptoRow.holds Try.pinned (OpenSpec.upto ticksAgesSpec)

/-- 'patchbaylaw16.PortSets', WHERE WHAT IT READS IS OF BULK AT MOST 1048576: true; the input reads as it did. -/
def portSetsUptoRow : OpenClaim := { program := "ytigaajkophmhoaa", sum := "5b06ba61ffa0895c06a50c54d1a7caa50180caf5b698e2d1e49b5ea063f4084d", func := "patchbay/patchbaylaw16.PortSets", spec := "portSets", apart := false, narrowed := true }
def PortSetsUptoSaid : Prop := portSetsUptoRow.holds Try.pinned (OpenSpec.upto portSetsSpec)

/-- 'patchbaylaw16.PortWords', WHERE WHAT IT READS IS OF BULK AT MOST 1048576: true; the input reads as it did. -/
def portWordsUptoRow : OpenClaim := { program := "ytigaajkophmhoaa", sum := "5b06ba61ffa0895c06a50c54d1a7caa50180caf5b698e2d1e49b5ea063f4084d", func := "patchbay/patchbaylaw16.PortWords", spec := "portWords", apart := false, narrowed := true }
def PortWordsUptoSaid : Prop := portWordsUptoRow.holds Try.pinned (OpenSpec.upto portWordsSpec)

/-- 'patchbaylaw08.KeyWords', WHERE WHAT IT READS IS OF BULK AT MOST 1048576: true; the input reads as it did. -/
def keyWordsUptoRow : OpenClaim := { program := "ytigaajkophmhoaa", sum := "5b06ba61ffa0895c06a50c54d1a7caa50180caf5b698e2d1e49b5ea063f4084d", func := "patchbay/patchbaylaw08.KeyWords", spec := "keyWords", apart := false, narrowed := true }
def KeyWordsUptoSaid : Prop := keyWordsUptoRow.holds Try.pinned (OpenSpec.upto keyWordsSpec)

/-- 'patchbaylaw08.KeyBacks', WHERE WHAT IT READS IS OF BULK AT MOST 1048576: true; the input reads as it did. -/
def keyBacksUptoRow : OpenClaim := { program := "ytigaajkophmhoaa", sum := "5b06ba61ffa0895c06a50c54d1a7caa50180caf5b698e2d1e49b5ea063f4084d", func := "patchbay/patchbaylaw08.KeyBacks", spec := "keyBacks", apart := false, narrowed := true }
def KeyBacksUptoSaid : Prop := keyBacksUptoRow.holds Try.pinned (OpenSpec.upto keyBacksSpec)

/-- 'patchbaylaw16.PortNames', WHERE WHAT IT READS IS OF BULK AT MOST 1048576: true; the input reads as it did. -/
def portNamesUptoRow : OpenClaim := { program := "ytigaajkophmhoaa", sum := "5b06ba61ffa0895c06a50c54d1a7caa50180caf5b698e2d1e49b5ea063f4084d", func := "patchbay/patchbaylaw16.PortNames", spec := "portNames", apart := false, narrowed := true }
def PortNamesUptoSaid : Prop := portNamesUptoRow.holds Try.pinned (OpenSpec.upto portNamesSpec)

/-- 'patchbaylaw08.KeyPlaces', WHERE WHAT IT READS IS OF BULK AT MOST 1048576: true; the input reads as it did. -/
def keyPlacesUptoRow : OpenClaim := { program := "ytigaajkophmhoaa", sum := "5b06ba61ffa0895c06a50c54d1a7caa50180caf5b698e2d1e49b5ea063f4084d", func := "patchbay/patchbaylaw08.KeyPlaces", spec := "keyPlaces", apart := false, narrowed := true }
def KeyPlacesUptoSaid : Prop := keyPlacesUptoRow.holds Try.pinned (OpenSpec.upto keyPlacesSpec)

/-- 'patchbaylaw09.SlotWords', WHERE WHAT IT READS IS OF BULK AT MOST 1048576: true; the input reads as it did. -/
def slotWordsUptoRow : OpenClaim := { program := "ytigaajkophmhoaa", sum := "5b06ba61ffa0895c06a50c54d1a7caa50180caf5b698e2d1e49b5ea063f4084d", func := "patchbay/patchbaylaw09.SlotWords", spec := "slotWords", apart := false, narrowed := true }
def SlotWordsUptoSaid : Prop := slotWordsUptoRow.holds Try.pinned (OpenSpec.upto slotWordsSpec)

/-- 'patchbaylaw09.SlotBacks', WHERE WHAT IT READS IS OF BULK AT MOST 1048576: true; the input reads as it did. -/
def slotBacksUptoRow : OpenClaim := { program := "ytigaajkophmhoaa", sum := "5b06ba61ffa0895c06a50c54d1a7caa50180caf5b698e2d1e49b5ea063f4084d", func := "patchbay/patchbaylaw09.SlotBacks", spec := "slotBacks", apart := false, narrowed := true }
def SlotBacksUptoSaid : Prop := slotBacksUptoRow.holds Try.pinned (OpenSpec.upto slotBacksSpec)

/-- 'patchbaylaw09.SlotAlters', WHERE WHAT IT READS IS OF BULK AT MOST 1048576: true; the input reads as it did. -/
def slotAltersUptoRow : OpenClaim := { program := "ytigaajkophmhoaa", sum := "5b06ba61ffa0895c06a50c54d1a7caa50180caf5b698e2d1e49b5ea063f4084d", func := "patchbay/patchbaylaw09.SlotAlters", spec := "slotAlters", apart := false, narrowed := true }
def SlotAltersUptoSaid : Prop := slotAltersUptoRow.holds Try.pinned (OpenSpec.upto slotAltersSpec)

end Rows
end Go.Proofs.Ytigaajkophmhoaa
