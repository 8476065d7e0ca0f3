/-
  No cell of these rows narrows 'for every input' (looked for: loops, veiled, ifaces, maps, wideKeys, modest, calm, conditions, laid).
  DERIVED. THE GIVEN ROWS OF THIS SEAT. 10 by the template 'for every input the law returns true; each argument reads behind the call as it read before'; 0 by the template 'total and deterministic' (their statements: YtfgdjljbdghdgaaTotals.lean).
  GIVEN WITH THE SEED: the statements are not yours to turn. If you find one false, say at which input.
  Laid BY PROGRAM, IN A SANDBOX (cutbox-rows.mjs): the forced cells as the released guide's own fill.sh prints them over the translation a3fe693b71e29113… (all of the seat's roots in one cut). By AI agents, Wed Nov 11 2026. No macro, syntax, notation, axiom, sorry.
-/
import Derived.Test.YtfgdjljbdghdgaaChecked
import GoSem.Claim
import GoSem.ClaimJoined
import GoSem.ClaimMapViews
import Derived.JoinedTies
import Derived.KernelRfl
namespace Go.Proofs.Ytfgdjljbdghdgaa
/- THE CELL 'sum', in the pinned program and in every row, IS THE sha256 OF THE DUMP (.gsa) THAT YtfgdjljbdghdgaaProg.lean LOADS. Nothing in Lean hashes anything: it is a label: what it is worth is what the hold of that sum in a sandbox is worth. -/
noncomputable def Try.pinned : Pinned := { name := "ytfgdjljbdghdgaa", sum := "a3fe693b71e2911384091c04dee87292a76f3f7ec7b4d246da398b8307213f0d", checked := Try.checked }
namespace Rows
def none {H : Type} : Left H := { results := [], args := [] }

/-- 'patchbaylaw07.TurnWhos': WHATEVER THE INPUT: true; the input reads as it did. -/
def turnWhosSpec : ChangeSpec := { name := "turnWhos", fn := fun _ => fun
  | [d1, d2, d3] => { results := [.lit (.bool true)], args := [d1, d2, d3] }
  | _ => none }
def turnWhosRow : OpenClaim := { program := "ytfgdjljbdghdgaa", sum := "a3fe693b71e2911384091c04dee87292a76f3f7ec7b4d246da398b8307213f0d", func := "patchbay/patchbaylaw07.TurnWhos", spec := "turnWhos", unfollowed := true, recurses := true, apart := false }
def TurnWhosSaid : Prop := turnWhosRow.holds Try.pinned (OpenSpec.ofChange turnWhosSpec)

/-- ITS FALSE NEIGHBOUR: 'it returns false'. Refute it at one input. -/
def turnWhosWrong : ChangeSpec := { name := "turnWhos", fn := fun _ => fun
  | [d1, d2, d3] => { results := [.lit (.bool false)], args := [d1, d2, d3] }
  | _ => none }
def TurnWhosWrongFalsely : Prop := turnWhosRow.holds Try.pinned (OpenSpec.ofChange turnWhosWrong)

/-- 'patchbaylaw07.TurnLists': WHATEVER THE INPUT: true; the input reads as it did. -/
def turnListsSpec : ChangeSpec := { name := "turnLists", fn := fun _ => fun
  | [d1, d2, d3] => { results := [.lit (.bool true)], args := [d1, d2, d3] }
  | _ => none }
def turnListsRow : OpenClaim := { program := "ytfgdjljbdghdgaa", sum := "a3fe693b71e2911384091c04dee87292a76f3f7ec7b4d246da398b8307213f0d", func := "patchbay/patchbaylaw07.TurnLists", spec := "turnLists", unfollowed := true, recurses := true, apart := false }
def TurnListsSaid : Prop := turnListsRow.holds Try.pinned (OpenSpec.ofChange turnListsSpec)

/-- ITS FALSE NEIGHBOUR: 'it returns false'. Refute it at one input. -/
def turnListsWrong : ChangeSpec := { name := "turnLists", fn := fun _ => fun
  | [d1, d2, d3] => { results := [.lit (.bool false)], args := [d1, d2, d3] }
  | _ => none }
def TurnListsWrongFalsely : Prop := turnListsRow.holds Try.pinned (OpenSpec.ofChange turnListsWrong)

/-- 'patchbaylaw07.TurnBursts': WHATEVER THE INPUT: true; the input reads as it did. -/
def turnBurstsSpec : ChangeSpec := { name := "turnBursts", fn := fun _ => fun
  | [d1, d2, d3] => { results := [.lit (.bool true)], args := [d1, d2, d3] }
  | _ => none }
def turnBurstsRow : OpenClaim := { program := "ytfgdjljbdghdgaa", sum := "a3fe693b71e2911384091c04dee87292a76f3f7ec7b4d246da398b8307213f0d", func := "patchbay/patchbaylaw07.TurnBursts", spec := "turnBursts", unfollowed := true, recurses := true, apart := false }
def TurnBurstsSaid : Prop := turnBurstsRow.holds Try.pinned (OpenSpec.ofChange turnBurstsSpec)

/-- ITS FALSE NEIGHBOUR: 'it returns false'. Refute it at one input. -/
def turnBurstsWrong : ChangeSpec := { name := "turnBursts", fn := fun _ => fun
  | [d1, d2, d3] => { results := [.lit (.bool false)], args := [d1, d2, d3] }
  | _ => none }
def TurnBurstsWrongFalsely : Prop := turnBurstsRow.holds Try.pinned (OpenSpec.ofChange turnBurstsWrong)

/-- 'patchbaylaw07.TurnCounts': WHATEVER THE INPUT: true; the input reads as it did. -/
def turnCountsSpec : ChangeSpec := { name := "turnCounts", fn := fun _ => fun
  | [d1, d2] => { results := [.lit (.bool true)], args := [d1, d2] }
  | _ => none }
def turnCountsRow : OpenClaim := { program := "ytfgdjljbdghdgaa", sum := "a3fe693b71e2911384091c04dee87292a76f3f7ec7b4d246da398b8307213f0d", func := "patchbay/patchbaylaw07.TurnCounts", spec := "turnCounts", unfollowed := true, recurses := true, apart := false }
def TurnCountsSaid : Prop := turnCountsRow.holds Try.pinned (OpenSpec.ofChange turnCountsSpec)

/-- ITS FALSE NEIGHBOUR: 'it returns false'. Refute it at one input. -/
def turnCountsWrong : ChangeSpec := { name := "turnCounts", fn := fun _ => fun
  | [d1, d2] => { results := [.lit (.bool false)], args := [d1, d2] }
  | _ => none }
def TurnCountsWrongFalsely : Prop := turnCountsRow.holds Try.pinned (OpenSpec.ofChange turnCountsWrong)

/-- 'patchbaylaw07.TurnFair': WHATEVER THE INPUT: true; the input reads as it did. -/
def turnFairSpec : ChangeSpec := { name := "turnFair", fn := fun _ => fun
  | [d1, d2, d3] => { results := [.lit (.bool true)], args := [d1, d2, d3] }
  | _ => none }
def turnFairRow : OpenClaim := { program := "ytfgdjljbdghdgaa", sum := "a3fe693b71e2911384091c04dee87292a76f3f7ec7b4d246da398b8307213f0d", func := "patchbay/patchbaylaw07.TurnFair", spec := "turnFair", unfollowed := true, recurses := true, apart := false }
def TurnFairSaid : Prop := turnFairRow.holds Try.pinned (OpenSpec.ofChange turnFairSpec)

/-- ITS FALSE NEIGHBOUR: 'it returns false'. Refute it at one input. -/
def turnFairWrong : ChangeSpec := { name := "turnFair", fn := fun _ => fun
  | [d1, d2, d3] => { results := [.lit (.bool false)], args := [d1, d2, d3] }
  | _ => none }
def TurnFairWrongFalsely : Prop := turnFairRow.holds Try.pinned (OpenSpec.ofChange turnFairWrong)

/-- 'patchbaylaw03.VlanClasses': WHATEVER THE INPUT: true; the input reads as it did. -/
def vlanClassesSpec : ChangeSpec := { name := "vlanClasses", fn := fun _ => fun
  | [d1, d2] => { results := [.lit (.bool true)], args := [d1, d2] }
  | _ => none }
def vlanClassesRow : OpenClaim := { program := "ytfgdjljbdghdgaa", sum := "a3fe693b71e2911384091c04dee87292a76f3f7ec7b4d246da398b8307213f0d", func := "patchbay/patchbaylaw03.VlanClasses", spec := "vlanClasses", unfollowed := true, recurses := true, apart := false }
def VlanClassesSaid : Prop := vlanClassesRow.holds Try.pinned (OpenSpec.ofChange vlanClassesSpec)

/-- ITS FALSE NEIGHBOUR: 'it returns false'. Refute it at one input. -/
def vlanClassesWrong : ChangeSpec := { name := "vlanClasses", fn := fun _ => fun
  | [d1, d2] => { results := [.lit (.bool false)], args := [d1, d2] }
  | _ => none }
def VlanClassesWrongFalsely : Prop := vlanClassesRow.holds Try.pinned (OpenSpec.ofChange vlanClassesWrong)

/-- 'patchbaylaw03.VlanPorts': WHATEVER THE INPUT: true; the input reads as it did. -/
def vlanPortsSpec : ChangeSpec := { name := "vlanPorts", fn := fun _ => fun
  | [d1, d2, d3] => { results := [.lit (.bool true)], args := [d1, d2, d3] }
  | _ => none }
def vlanPortsRow : OpenClaim := { program := "ytfgdjljbdghdgaa", sum := "a3fe693b71e2911384091c04dee87292a76f3f7ec7b4d246da398b8307213f0d", func := "patchbay/patchbaylaw03.VlanPorts", spec := "vlanPorts", unfollowed := true, recurses := true, apart := false }
def VlanPortsSaid : Prop := vlanPortsRow.holds Try.pinned (OpenSpec.ofChange vlanPortsSpec)

/-- ITS FALSE NEIGHBOUR: 'it returns false'. Refute it at one input. -/
def vlanPortsWrong : ChangeSpec := { name := "vlanPorts", fn := fun _ => fun
  | [d1, d2, d3] => { results := [.lit (.bool false)], args := [d1, d2, d3] }
  | _ => none }
def VlanPortsWrongFalsely : Prop := vlanPortsRow.holds Try.pinned (OpenSpec.ofChange vlanPortsWrong)

/-- 'patchbaylaw03.VlanAccepts': WHATEVER THE INPUT: true; the input reads as it did. -/
def vlanAcceptsSpec : ChangeSpec := { name := "vlanAccepts", fn := fun _ => fun
  | [d1, d2] => { results := [.lit (.bool true)], args := [d1, d2] }
  | _ => none }
def vlanAcceptsRow : OpenClaim := { program := "ytfgdjljbdghdgaa", sum := "a3fe693b71e2911384091c04dee87292a76f3f7ec7b4d246da398b8307213f0d", func := "patchbay/patchbaylaw03.VlanAccepts", spec := "vlanAccepts", unfollowed := true, recurses := true, apart := false }
def VlanAcceptsSaid : Prop := vlanAcceptsRow.holds Try.pinned (OpenSpec.ofChange vlanAcceptsSpec)

/-- ITS FALSE NEIGHBOUR: 'it returns false'. Refute it at one input. -/
def vlanAcceptsWrong : ChangeSpec := { name := "vlanAccepts", fn := fun _ => fun
  | [d1, d2] => { results := [.lit (.bool false)], args := [d1, d2] }
  | _ => none }
def VlanAcceptsWrongFalsely : Prop := vlanAcceptsRow.holds Try.pinned (OpenSpec.ofChange vlanAcceptsWrong)

/-- 'patchbaylaw03.VlanSpreads': WHATEVER THE INPUT: true; the input reads as it did. -/
def vlanSpreadsSpec : ChangeSpec := { name := "vlanSpreads", fn := fun _ => fun
  | [d1, d2, d3] => { results := [.lit (.bool true)], args := [d1, d2, d3] }
  | _ => none }
def vlanSpreadsRow : OpenClaim := { program := "ytfgdjljbdghdgaa", sum := "a3fe693b71e2911384091c04dee87292a76f3f7ec7b4d246da398b8307213f0d", func := "patchbay/patchbaylaw03.VlanSpreads", spec := "vlanSpreads", unfollowed := true, recurses := true, apart := false }
def VlanSpreadsSaid : Prop := vlanSpreadsRow.holds Try.pinned (OpenSpec.ofChange vlanSpreadsSpec)

/-- ITS FALSE NEIGHBOUR: 'it returns false'. Refute it at one input. -/
def vlanSpreadsWrong : ChangeSpec := { name := "vlanSpreads", fn := fun _ => fun
  | [d1, d2, d3] => { results := [.lit (.bool false)], args := [d1, d2, d3] }
  | _ => none }
def VlanSpreadsWrongFalsely : Prop := vlanSpreadsRow.holds Try.pinned (OpenSpec.ofChange vlanSpreadsWrong)

/-- 'patchbaylaw03.VlanChecks': WHATEVER THE INPUT: true; the input reads as it did. -/
def vlanChecksSpec : ChangeSpec := { name := "vlanChecks", fn := fun _ => fun
  | [d1, d2, d3] => { results := [.lit (.bool true)], args := [d1, d2, d3] }
  | _ => none }
def vlanChecksRow : OpenClaim := { program := "ytfgdjljbdghdgaa", sum := "a3fe693b71e2911384091c04dee87292a76f3f7ec7b4d246da398b8307213f0d", func := "patchbay/patchbaylaw03.VlanChecks", spec := "vlanChecks", unfollowed := true, recurses := true, apart := false }
def VlanChecksSaid : Prop := vlanChecksRow.holds Try.pinned (OpenSpec.ofChange vlanChecksSpec)

/-- ITS FALSE NEIGHBOUR: 'it returns false'. Refute it at one input. -/
def vlanChecksWrong : ChangeSpec := { name := "vlanChecks", fn := fun _ => fun
  | [d1, d2, d3] => { results := [.lit (.bool false)], args := [d1, d2, d3] }
  | _ => none }
def VlanChecksWrongFalsely : Prop := vlanChecksRow.holds Try.pinned (OpenSpec.ofChange vlanChecksWrong)

/- THE SECOND FORM. 'bulk': how many values and letters a reading holds, each counted each time it is reached (what is shared counts as often as it is met; a slice's spare places count too). A statement '..UptoSaid' is the law's where the arguments, and the package variables that the reading takes, are together of bulk at most 1048576: NARROWER than '..Said'. Prove '..Said' where nothing that the law and all that it calls make is longer than what came in: it says more and counts as full. Else prove '..UptoSaid'. A law counts once. -/
mutual
def uptoBulk {H : Type} : DataW H → Nat
  | .lit (.string bytes) => bytes.length + 1
  | .lit _ => 1
  | .nil => 1
  | .ptr d => uptoBulk d + 1
  | .slice elems spare => uptoBulkAll elems + uptoBulkAll spare + 1
  | .agg parts => uptoBulkAll parts + 1
  | .iface _ d => uptoBulk d + 1
  | .map entries => uptoBulkEntries entries + 1
  | .held _ => 1
def uptoBulkAll {H : Type} : List (DataW H) → Nat
  | [] => 0
  | d :: r => uptoBulk d + uptoBulkAll r
def uptoBulkEntries {H : Type} : List (Lit × DataW H) → Nat
  | [] => 0
  | x :: r => uptoBulkEntry x + uptoBulkEntries r
def uptoBulkEntry {H : Type} : Lit × DataW H → Nat
  | (.string bytes, d) => bytes.length + uptoBulk d + 1
  | (_, d) => uptoBulk d + 1
 end
def uptoSmall : (H : Type) → List (DataW H) → Bool := fun _ ds => decide (uptoBulkAll ds ≤ 1048576)
def OpenSpec.upto (s : _root_.Go.ChangeSpec) : _root_.Go.OpenSpec := { _root_.Go.OpenSpec.ofChange s with cond := some uptoSmall }

/-- 'patchbaylaw07.TurnWhos', WHERE WHAT IT READS IS OF BULK AT MOST 1048576: true; the input reads as it did. -/
def turnWhosUptoRow : OpenClaim := { program := "ytfgdjljbdghdgaa", sum := "a3fe693b71e2911384091c04dee87292a76f3f7ec7b4d246da398b8307213f0d", func := "patchbay/patchbaylaw07.TurnWhos", spec := "turnWhos", unfollowed := true, recurses := true, apart := false, narrowed := true }
def TurnWhosUptoSaid : Prop := turnWhosUptoRow.holds Try.pinned (OpenSpec.upto turnWhosSpec)

/-- 'patchbaylaw07.TurnLists', WHERE WHAT IT READS IS OF BULK AT MOST 1048576: true; the input reads as it did. -/
def turnListsUptoRow : OpenClaim := { program := "ytfgdjljbdghdgaa", sum := "a3fe693b71e2911384091c04dee87292a76f3f7ec7b4d246da398b8307213f0d", func := "patchbay/patchbaylaw07.TurnLists", spec := "turnLists", unfollowed := true, recurses := true, apart := false, narrowed := true }
def TurnListsUptoSaid : Prop := turnListsUptoRow.holds Try.pinned (OpenSpec.upto turnListsSpec)

/-- 'patchbaylaw07.TurnBursts', WHERE WHAT IT READS IS OF BULK AT MOST 1048576: true; the input reads as it did. -/
def turnBurstsUptoRow : OpenClaim := { program := "ytfgdjljbdghdgaa", sum := "a3fe693b71e2911384091c04dee87292a76f3f7ec7b4d246da398b8307213f0d", func := "patchbay/patchbaylaw07.TurnBursts", spec := "turnBursts", unfollowed := true, recurses := true, apart := false, narrowed := true }
def TurnBurstsUptoSaid : Prop := turnBurstsUptoRow.holds Try.pinned (OpenSpec.upto turnBurstsSpec)

/-- 'patchbaylaw07.TurnCounts', WHERE WHAT IT READS IS OF BULK AT MOST 1048576: true; the input reads as it did. -/
def turnCountsUptoRow : OpenClaim := { program := "ytfgdjljbdghdgaa", sum := "a3fe693b71e2911384091c04dee87292a76f3f7ec7b4d246da398b8307213f0d", func := "patchbay/patchbaylaw07.TurnCounts", spec := "turnCounts", unfollowed := true, recurses := true, apart := false, narrowed := true }
def TurnCountsUptoSaid : Prop := turnCountsUptoRow.holds Try.pinned (OpenSpec.upto turnCountsSpec)

/-- 'patchbaylaw07.TurnFair', WHERE WHAT IT READS IS OF BULK AT MOST 1048576: true; the input reads as it did. -/
def turnFairUptoRow : OpenClaim := { program := "ytfgdjljbdghdgaa", sum := "a3fe693b71e2911384091c04dee87292a76f3f7ec7b4d246da398b8307213f0d", func := "patchbay/patchbaylaw07.TurnFair", spec := "turnFair", unfollowed := true, recurses := true, apart := false, narrowed := true }
def TurnFairUptoSaid : Prop := turnFairUptoRow.holds Try.pinned (OpenSpec.upto turnFairSpec)

/-- 'patchbaylaw03.VlanClasses', WHERE WHAT IT READS IS OF BULK AT MOST 1048576: true; the input reads as it did. -/
def vlanClassesUptoRow : OpenClaim := { program := "ytfgdjljbdghdgaa", sum := "a3fe693b71e2911384091c04dee87292a76f3f7ec7b4d246da398b8307213f0d", func := "patchbay/patchbaylaw03.VlanClasses", spec := "vlanClasses", unfollowed := true, recurses := true, apart := false, narrowed := true }
def VlanClassesUptoSaid : Prop := vlanClassesUptoRow.holds Try.pinned (OpenSpec.upto vlanClassesSpec)

/-- 'patchbaylaw03.VlanPorts', WHERE WHAT IT READS IS OF BULK AT MOST 1048576: true; the input reads as it did. -/
def vlanPortsUptoRow : OpenClaim := { program := "ytfgdjljbdghdgaa", sum := "a3fe693b71e2911384091c04dee87292a76f3f7ec7b4d246da398b8307213f0d", func := "patchbay/patchbaylaw03.VlanPorts", spec := "vlanPorts", unfollowed := true, recurses := true, apart := false, narrowed := true }
def VlanPortsUptoSaid : Prop := vlanPortsUptoRow.holds Try.pinned (OpenSpec.upto vlanPortsSpec)

/-- 'patchbaylaw03.VlanAccepts', WHERE WHAT IT READS IS OF BULK AT MOST 1048576: true; the input reads as it did. -/
def vlanAcceptsUptoRow : OpenClaim := { program := "ytfgdjljbdghdgaa", sum := "a3fe693b71e2911384091c04dee87292a76f3f7ec7b4d246da398b8307213f0d", func := "patchbay/patchbaylaw03.VlanAccepts", spec := "vlanAccepts", unfollowed := true, recurses := true, apart := false, narrowed := true }
def VlanAcceptsUptoSaid : Prop := vlanAcceptsUptoRow.holds Try.pinned (OpenSpec.upto vlanAcceptsSpec)

/-- 'patchbaylaw03.VlanSpreads', WHERE WHAT IT READS IS OF BULK AT MOST 1048576: true; the input reads as it did. -/
def vlanSpreadsUptoRow : OpenClaim := { program := "ytfgdjljbdghdgaa", sum := "a3fe693b71e2911384091c04dee87292a76f3f7ec7b4d246da398b8307213f0d", func := "patchbay/patchbaylaw03.VlanSpreads", spec := "vlanSpreads", unfollowed := true, recurses := true, apart := false, narrowed := true }
def VlanSpreadsUptoSaid : Prop := vlanSpreadsUptoRow.holds Try.pinned (OpenSpec.upto vlanSpreadsSpec)

/-- 'patchbaylaw03.VlanChecks', WHERE WHAT IT READS IS OF BULK AT MOST 1048576: true; the input reads as it did. -/
def vlanChecksUptoRow : OpenClaim := { program := "ytfgdjljbdghdgaa", sum := "a3fe693b71e2911384091c04dee87292a76f3f7ec7b4d246da398b8307213f0d", func := "patchbay/patchbaylaw03.VlanChecks", spec := "vlanChecks", unfollowed := true, recurses := true, apart := false, narrowed := true }
def VlanChecksUptoSaid : Prop := vlanChecksUptoRow.holds Try.pinned (OpenSpec.upto vlanChecksSpec)

end Rows
end Go.Proofs.Ytfgdjljbdghdgaa
