/-
  No cell of these rows narrows 'for every input' (looked for: loops, veiled, ifaces, maps, wideKeys, modest, calm, conditions, laid).
  DERIVED. THE GIVEN ROWS OF THIS SEAT. 12 by the template 'for every input the law returns true; each argument reads behind the call as it read before'; 0 by the template 'total and deterministic' (their statements: YtejplbeddcpmeaaTotals.lean).
  GIVEN WITH THE SEED: the statements are not yours to turn. If you find one false, say at which input.
  Laid BY PROGRAM, IN A SANDBOX (cutbox-rows.mjs): the forced cells as the released guide's own fill.sh prints them over the translation 51102847006b3650… (all of the seat's roots in one cut). By AI agents, Wed Nov 11 2026. No macro, syntax, notation, axiom, sorry.
-/
import Derived.Test.YtejplbeddcpmeaaChecked
import GoSem.Claim
import GoSem.ClaimJoined
import GoSem.ClaimMapViews
import Derived.JoinedTies
import Derived.KernelRfl
namespace Go.Proofs.Ytejplbeddcpmeaa
/- THE CELL 'sum', in the pinned program and in every row, IS THE sha256 OF THE DUMP (.gsa) THAT YtejplbeddcpmeaaProg.lean LOADS. Nothing in Lean hashes anything: it is a label: what it is worth is what the hold of that sum in a sandbox is worth. -/
noncomputable def Try.pinned : Pinned := { name := "ytejplbeddcpmeaa", sum := "51102847006b36504400bd25a5c301d51ec3b54bd2a8bfbc5f31c088531161d2", checked := Try.checked }
namespace Rows
def none {H : Type} : Left H := { results := [], args := [] }

/-- 'patchbaylaw06.MemLocks': WHATEVER THE INPUT: true; the input reads as it did. -/
def memLocksSpec : ChangeSpec := { name := "memLocks", fn := fun _ => fun
  | [d1, d2] => { results := [.lit (.bool true)], args := [d1, d2] }
  | _ => none }
def memLocksRow : OpenClaim := { program := "ytejplbeddcpmeaa", sum := "51102847006b36504400bd25a5c301d51ec3b54bd2a8bfbc5f31c088531161d2", func := "patchbay/patchbaylaw06.MemLocks", spec := "memLocks", apart := false }
def MemLocksSaid : Prop := memLocksRow.holds Try.pinned (OpenSpec.ofChange memLocksSpec)

/-- ITS FALSE NEIGHBOUR: 'it returns false'. Refute it at one input. -/
def memLocksWrong : ChangeSpec := { name := "memLocks", fn := fun _ => fun
  | [d1, d2] => { results := [.lit (.bool false)], args := [d1, d2] }
  | _ => none }
def MemLocksWrongFalsely : Prop := memLocksRow.holds Try.pinned (OpenSpec.ofChange memLocksWrong)

/-- 'patchbaylaw06.MemApart': WHATEVER THE INPUT: true; the input reads as it did. -/
def memApartSpec : ChangeSpec := { name := "memApart", fn := fun _ => fun
  | [d1, d2] => { results := [.lit (.bool true)], args := [d1, d2] }
  | _ => none }
def memApartRow : OpenClaim := { program := "ytejplbeddcpmeaa", sum := "51102847006b36504400bd25a5c301d51ec3b54bd2a8bfbc5f31c088531161d2", func := "patchbay/patchbaylaw06.MemApart", spec := "memApart", apart := false }
def MemApartSaid : Prop := memApartRow.holds Try.pinned (OpenSpec.ofChange memApartSpec)

/-- ITS FALSE NEIGHBOUR: 'it returns false'. Refute it at one input. -/
def memApartWrong : ChangeSpec := { name := "memApart", fn := fun _ => fun
  | [d1, d2] => { results := [.lit (.bool false)], args := [d1, d2] }
  | _ => none }
def MemApartWrongFalsely : Prop := memApartRow.holds Try.pinned (OpenSpec.ofChange memApartWrong)

/-- 'patchbaylaw06.MemActs': WHATEVER THE INPUT: true; the input reads as it did. -/
def memActsSpec : ChangeSpec := { name := "memActs", fn := fun _ => fun
  | [d1, d2, d3] => { results := [.lit (.bool true)], args := [d1, d2, d3] }
  | _ => none }
def memActsRow : OpenClaim := { program := "ytejplbeddcpmeaa", sum := "51102847006b36504400bd25a5c301d51ec3b54bd2a8bfbc5f31c088531161d2", func := "patchbay/patchbaylaw06.MemActs", spec := "memActs", apart := false }
def MemActsSaid : Prop := memActsRow.holds Try.pinned (OpenSpec.ofChange memActsSpec)

/-- ITS FALSE NEIGHBOUR: 'it returns false'. Refute it at one input. -/
def memActsWrong : ChangeSpec := { name := "memActs", fn := fun _ => fun
  | [d1, d2, d3] => { results := [.lit (.bool false)], args := [d1, d2, d3] }
  | _ => none }
def MemActsWrongFalsely : Prop := memActsRow.holds Try.pinned (OpenSpec.ofChange memActsWrong)

/-- 'patchbaylaw06.MemNews': WHATEVER THE INPUT: true; the input reads as it did. -/
def memNewsSpec : ChangeSpec := { name := "memNews", fn := fun _ => fun
  | [d1, d2, d3] => { results := [.lit (.bool true)], args := [d1, d2, d3] }
  | _ => none }
def memNewsRow : OpenClaim := { program := "ytejplbeddcpmeaa", sum := "51102847006b36504400bd25a5c301d51ec3b54bd2a8bfbc5f31c088531161d2", func := "patchbay/patchbaylaw06.MemNews", spec := "memNews", apart := false }
def MemNewsSaid : Prop := memNewsRow.holds Try.pinned (OpenSpec.ofChange memNewsSpec)

/-- ITS FALSE NEIGHBOUR: 'it returns false'. Refute it at one input. -/
def memNewsWrong : ChangeSpec := { name := "memNews", fn := fun _ => fun
  | [d1, d2, d3] => { results := [.lit (.bool false)], args := [d1, d2, d3] }
  | _ => none }
def MemNewsWrongFalsely : Prop := memNewsRow.holds Try.pinned (OpenSpec.ofChange memNewsWrong)

/-- 'patchbaylaw14.RingStill': WHATEVER THE INPUT: true; the input reads as it did. -/
def ringStillSpec : ChangeSpec := { name := "ringStill", fn := fun _ => fun
  | [d1, d2, d3] => { results := [.lit (.bool true)], args := [d1, d2, d3] }
  | _ => none }
def ringStillRow : OpenClaim := { program := "ytejplbeddcpmeaa", sum := "51102847006b36504400bd25a5c301d51ec3b54bd2a8bfbc5f31c088531161d2", func := "patchbay/patchbaylaw14.RingStill", spec := "ringStill", unfollowed := true, recurses := true, apart := false }
def RingStillSaid : Prop := ringStillRow.holds Try.pinned (OpenSpec.ofChange ringStillSpec)

/-- ITS FALSE NEIGHBOUR: 'it returns false'. Refute it at one input. -/
def ringStillWrong : ChangeSpec := { name := "ringStill", fn := fun _ => fun
  | [d1, d2, d3] => { results := [.lit (.bool false)], args := [d1, d2, d3] }
  | _ => none }
def RingStillWrongFalsely : Prop := ringStillRow.holds Try.pinned (OpenSpec.ofChange ringStillWrong)

/-- 'patchbaylaw14.RingTurns': WHATEVER THE INPUT: true; the input reads as it did. -/
def ringTurnsSpec : ChangeSpec := { name := "ringTurns", fn := fun _ => fun
  | [d1, d2, d3] => { results := [.lit (.bool true)], args := [d1, d2, d3] }
  | _ => none }
def ringTurnsRow : OpenClaim := { program := "ytejplbeddcpmeaa", sum := "51102847006b36504400bd25a5c301d51ec3b54bd2a8bfbc5f31c088531161d2", func := "patchbay/patchbaylaw14.RingTurns", spec := "ringTurns", unfollowed := true, recurses := true, apart := false }
def RingTurnsSaid : Prop := ringTurnsRow.holds Try.pinned (OpenSpec.ofChange ringTurnsSpec)

/-- ITS FALSE NEIGHBOUR: 'it returns false'. Refute it at one input. -/
def ringTurnsWrong : ChangeSpec := { name := "ringTurns", fn := fun _ => fun
  | [d1, d2, d3] => { results := [.lit (.bool false)], args := [d1, d2, d3] }
  | _ => none }
def RingTurnsWrongFalsely : Prop := ringTurnsRow.holds Try.pinned (OpenSpec.ofChange ringTurnsWrong)

/-- 'patchbaylaw14.RingAlone': WHATEVER THE INPUT: true; the input reads as it did. -/
def ringAloneSpec : ChangeSpec := { name := "ringAlone", fn := fun _ => fun
  | [d1, d2, d3] => { results := [.lit (.bool true)], args := [d1, d2, d3] }
  | _ => none }
def ringAloneRow : OpenClaim := { program := "ytejplbeddcpmeaa", sum := "51102847006b36504400bd25a5c301d51ec3b54bd2a8bfbc5f31c088531161d2", func := "patchbay/patchbaylaw14.RingAlone", spec := "ringAlone", unfollowed := true, recurses := true, apart := false }
def RingAloneSaid : Prop := ringAloneRow.holds Try.pinned (OpenSpec.ofChange ringAloneSpec)

/-- ITS FALSE NEIGHBOUR: 'it returns false'. Refute it at one input. -/
def ringAloneWrong : ChangeSpec := { name := "ringAlone", fn := fun _ => fun
  | [d1, d2, d3] => { results := [.lit (.bool false)], args := [d1, d2, d3] }
  | _ => none }
def RingAloneWrongFalsely : Prop := ringAloneRow.holds Try.pinned (OpenSpec.ofChange ringAloneWrong)

/-- 'patchbaylaw14.RingNews': WHATEVER THE INPUT: true; the input reads as it did. -/
def ringNewsSpec : ChangeSpec := { name := "ringNews", fn := fun _ => fun
  | [d1, d2] => { results := [.lit (.bool true)], args := [d1, d2] }
  | _ => none }
def ringNewsRow : OpenClaim := { program := "ytejplbeddcpmeaa", sum := "51102847006b36504400bd25a5c301d51ec3b54bd2a8bfbc5f31c088531161d2", func := "patchbay/patchbaylaw14.RingNews", spec := "ringNews", unfollowed := true, recurses := true, apart := false }
def RingNewsSaid : Prop := ringNewsRow.holds Try.pinned (OpenSpec.ofChange ringNewsSpec)

/-- ITS FALSE NEIGHBOUR: 'it returns false'. Refute it at one input. -/
def ringNewsWrong : ChangeSpec := { name := "ringNews", fn := fun _ => fun
  | [d1, d2] => { results := [.lit (.bool false)], args := [d1, d2] }
  | _ => none }
def RingNewsWrongFalsely : Prop := ringNewsRow.holds Try.pinned (OpenSpec.ofChange ringNewsWrong)

/-- 'patchbaylaw15.LaneAlone': WHATEVER THE INPUT: true; the input reads as it did. -/
def laneAloneSpec : ChangeSpec := { name := "laneAlone", fn := fun _ => fun
  | [d1, d2, d3] => { results := [.lit (.bool true)], args := [d1, d2, d3] }
  | _ => none }
def laneAloneRow : OpenClaim := { program := "ytejplbeddcpmeaa", sum := "51102847006b36504400bd25a5c301d51ec3b54bd2a8bfbc5f31c088531161d2", func := "patchbay/patchbaylaw15.LaneAlone", spec := "laneAlone", unfollowed := true, recurses := true, apart := false }
def LaneAloneSaid : Prop := laneAloneRow.holds Try.pinned (OpenSpec.ofChange laneAloneSpec)

/-- ITS FALSE NEIGHBOUR: 'it returns false'. Refute it at one input. -/
def laneAloneWrong : ChangeSpec := { name := "laneAlone", fn := fun _ => fun
  | [d1, d2, d3] => { results := [.lit (.bool false)], args := [d1, d2, d3] }
  | _ => none }
def LaneAloneWrongFalsely : Prop := laneAloneRow.holds Try.pinned (OpenSpec.ofChange laneAloneWrong)

/-- 'patchbaylaw15.LaneFair': WHATEVER THE INPUT: true; the input reads as it did. -/
def laneFairSpec : ChangeSpec := { name := "laneFair", fn := fun _ => fun
  | [d1, d2, d3] => { results := [.lit (.bool true)], args := [d1, d2, d3] }
  | _ => none }
def laneFairRow : OpenClaim := { program := "ytejplbeddcpmeaa", sum := "51102847006b36504400bd25a5c301d51ec3b54bd2a8bfbc5f31c088531161d2", func := "patchbay/patchbaylaw15.LaneFair", spec := "laneFair", unfollowed := true, recurses := true, apart := false }
def LaneFairSaid : Prop := laneFairRow.holds Try.pinned (OpenSpec.ofChange laneFairSpec)

/-- ITS FALSE NEIGHBOUR: 'it returns false'. Refute it at one input. -/
def laneFairWrong : ChangeSpec := { name := "laneFair", fn := fun _ => fun
  | [d1, d2, d3] => { results := [.lit (.bool false)], args := [d1, d2, d3] }
  | _ => none }
def LaneFairWrongFalsely : Prop := laneFairRow.holds Try.pinned (OpenSpec.ofChange laneFairWrong)

/-- 'patchbaylaw15.LaneNews': WHATEVER THE INPUT: true; the input reads as it did. -/
def laneNewsSpec : ChangeSpec := { name := "laneNews", fn := fun _ => fun
  | [d1, d2] => { results := [.lit (.bool true)], args := [d1, d2] }
  | _ => none }
def laneNewsRow : OpenClaim := { program := "ytejplbeddcpmeaa", sum := "51102847006b36504400bd25a5c301d51ec3b54bd2a8bfbc5f31c088531161d2", func := "patchbay/patchbaylaw15.LaneNews", spec := "laneNews", unfollowed := true, recurses := true, apart := false }
def LaneNewsSaid : Prop := laneNewsRow.holds Try.pinned (OpenSpec.ofChange laneNewsSpec)

/-- ITS FALSE NEIGHBOUR: 'it returns false'. Refute it at one input. -/
def laneNewsWrong : ChangeSpec := { name := "laneNews", fn := fun _ => fun
  | [d1, d2] => { results := [.lit (.bool false)], args := [d1, d2] }
  | _ => none }
def LaneNewsWrongFalsely : Prop := laneNewsRow.holds Try.pinned (OpenSpec.ofChange laneNewsWrong)

/-- 'patchbaylaw15.LaneTurns': WHATEVER THE INPUT: true; the input reads as it did. -/
def laneTurnsSpec : ChangeSpec := { name := "laneTurns", fn := fun _ => fun
  | [d1, d2, d3] => { results := [.lit (.bool true)], args := [d1, d2, d3] }
  | _ => none }
def laneTurnsRow : OpenClaim := { program := "ytejplbeddcpmeaa", sum := "51102847006b36504400bd25a5c301d51ec3b54bd2a8bfbc5f31c088531161d2", func := "patchbay/patchbaylaw15.LaneTurns", spec := "laneTurns", unfollowed := true, recurses := true, apart := false }
def LaneTurnsSaid : Prop := laneTurnsRow.holds Try.pinned (OpenSpec.ofChange laneTurnsSpec)

/-- ITS FALSE NEIGHBOUR: 'it returns false'. Refute it at one input. -/
def laneTurnsWrong : ChangeSpec := { name := "laneTurns", fn := fun _ => fun
  | [d1, d2, d3] => { results := [.lit (.bool false)], args := [d1, d2, d3] }
  | _ => none }
def LaneTurnsWrongFalsely : Prop := laneTurnsRow.holds Try.pinned (OpenSpec.ofChange laneTurnsWrong)

/- THE SECOND FORM. 'bulk': how many values and letters a reading holds, each counted each time it is reached (what is shared counts as often as it is met; a slice's spare places count too). A statement '..UptoSaid' is the law's where the arguments, and the package variables that the reading takes, are together of bulk at most 1048576: NARROWER than '..Said'. Prove '..Said' where nothing that the law and all that it calls make is longer than what came in: it says more and counts as full. Else prove '..UptoSaid'. A law counts once. -/
mutual
def uptoBulk {H : Type} : DataW H → Nat
  | .lit (.string bytes) => bytes.length + 1
  | .lit _ => 1
  | .nil => 1
  | .ptr d => uptoBulk d + 1
  | .slice elems spare => uptoBulkAll elems + uptoBulkAll spare + 1
  | .agg parts => uptoBulkAll parts + 1
  | .iface _ d => uptoBulk d + 1
  | .map entries => uptoBulkEntries entries + 1
  | .held _ => 1
def uptoBulkAll {H : Type} : List (DataW H) → Nat
  | [] => 0
  | d :: r => uptoBulk d + uptoBulkAll r
def uptoBulkEntries {H : Type} : List (Lit × DataW H) → Nat
  | [] => 0
  | x :: r => uptoBulkEntry x + uptoBulkEntries r
def uptoBulkEntry {H : Type} : Lit × DataW H → Nat
  | (.string bytes, d) => bytes.length + uptoBulk d + 1
  | (_, d) => uptoBulk d + 1
 end
def uptoSmall : (H : Type) → List (DataW H) → Bool := fun _ ds => decide (uptoBulkAll ds ≤ 1048576)
def OpenSpec.upto (s : _root_.Go.ChangeSpec) : _root_.Go.OpenSpec := { _root_.Go.OpenSpec.ofChange s with cond := some uptoSmall }

/-- 'patchbaylaw06.MemLocks', WHERE WHAT IT READS IS OF BULK AT MOST 1048576: true; the input reads as it did. -/
def memLocksUptoRow : OpenClaim := { program := "ytejplbeddcpmeaa", sum := "51102847006b36504400bd25a5c301d51ec3b54bd2a8bfbc5f31c088531161d2", func := "patchbay/patchbaylaw06.MemLocks", spec := "memLocks", apart := false, narrowed := true }
def MemLocksUptoSaid : Prop := memLocksUptoRow.holds Try.pinned (OpenSpec.upto memLocksSpec)

/-- 'patchbaylaw06.MemApart', WHERE WHAT IT READS IS OF BULK AT MOST 1048576: true; the input reads as it did. -/
def memApartUptoRow : OpenClaim := { program := "ytejplbeddcpmeaa", sum := "51102847006b36504400bd25a5c301d51ec3b54bd2a8bfbc5f31c088531161d2", func := "patchbay/patchbaylaw06.MemApart", spec := "memApart", apart := false, narrowed := true }
def MemApartUptoSaid : Prop := memApartUptoRow.holds Try.pinned (OpenSpec.upto memApartSpec)

/-- 'patchbaylaw06.MemActs', WHERE WHAT IT READS IS OF BULK AT MOST 1048576: true; the input reads as it did. -/
def memActsUptoRow : OpenClaim := { program := "ytejplbeddcpmeaa", sum := "51102847006b36504400bd25a5c301d51ec3b54bd2a8bfbc5f31c088531161d2", func := "patchbay/patchbaylaw06.MemActs", spec := "memActs", apart := false, narrowed := true }
def MemActsUptoSaid : Prop := memActsUptoRow.holds Try.pinned (OpenSpec.upto memActsSpec)

/-- 'patchbaylaw06.MemNews', WHERE WHAT IT READS IS OF BULK AT MOST 1048576: true; the input reads as it did. -/
def memNewsUptoRow : OpenClaim := { program := "ytejplbeddcpmeaa", sum := "51102847006b36504400bd25a5c301d51ec3b54bd2a8bfbc5f31c088531161d2", func := "patchbay/patchbaylaw06.MemNews", spec := "memNews", apart := false, narrowed := true }
def MemNewsUptoSaid : Prop := memNewsUptoRow.holds Try.pinned (OpenSpec.upto memNewsSpec)

/-- 'patchbaylaw14.RingStill', WHERE WHAT IT READS IS OF BULK AT MOST 1048576: true; the input reads as it did. -/
def ringStillUptoRow : OpenClaim := { program := "ytejplbeddcpmeaa", sum := "51102847006b36504400bd25a5c301d51ec3b54bd2a8bfbc5f31c088531161d2", func := "patchbay/patchbaylaw14.RingStill", spec := "ringStill", unfollowed := true, recurses := true, apart := false, narrowed := true }
def RingStillUptoSaid : Prop := ringStillUptoRow.holds Try.pinned (OpenSpec.upto ringStillSpec)

/-- 'patchbaylaw14.RingTurns', WHERE WHAT IT READS IS OF BULK AT MOST 1048576: true; the input reads as it did. -/
def ringTurnsUptoRow : OpenClaim := { program := "ytejplbeddcpmeaa", sum := "51102847006b36504400bd25a5c301d51ec3b54bd2a8bfbc5f31c088531161d2", func := "patchbay/patchbaylaw14.RingTurns", spec := "ringTurns", unfollowed := true, recurses := true, apart := false, narrowed := true }
def RingTurnsUptoSaid : Prop := ringTurnsUptoRow.holds Try.pinned (OpenSpec.upto ringTurnsSpec)

/-- 'patchbaylaw14.RingAlone', WHERE WHAT IT READS IS OF BULK AT MOST 1048576: true; the input reads as it did. -/
def ringAloneUptoRow : OpenClaim := { program := "ytejplbeddcpmeaa", sum := "51102847006b36504400bd25a5c301d51ec3b54bd2a8bfbc5f31c088531161d2", func := "patchbay/patchbaylaw14.RingAlone", spec := "ringAlone", unfollowed := true, recurses := true, apart := false, narrowed := true }
def RingAloneUptoSaid : Prop := ringAloneUptoRow.holds Try.pinned (OpenSpec.upto ringAloneSpec)

/-- 'patchbaylaw14.RingNews', WHERE WHAT IT READS IS OF BULK AT MOST 1048576: true; the input reads as it did. -/
def ringNewsUptoRow : OpenClaim := { program := "ytejplbeddcpmeaa", sum := "51102847006b36504400bd25a5c301d51ec3b54bd2a8bfbc5f31c088531161d2", func := "patchbay/patchbaylaw14.RingNews", spec := "ringNews", unfollowed := true, recurses := true, apart := false, narrowed := true }
def RingNewsUptoSaid : Prop := ringNewsUptoRow.holds Try.pinned (OpenSpec.upto ringNewsSpec)

/-- 'patchbaylaw15.LaneAlone', WHERE WHAT IT READS IS OF BULK AT MOST 1048576: true; the input reads as it did. -/
def laneAloneUptoRow : OpenClaim := { program := "ytejplbeddcpmeaa", sum := "51102847006b36504400bd25a5c301d51ec3b54bd2a8bfbc5f31c088531161d2", func := "patchbay/patchbaylaw15.LaneAlone", spec := "laneAlone", unfollowed := true, recurses := true, apart := false, narrowed := true }
def LaneAloneUptoSaid : Prop := laneAloneUptoRow.holds Try.pinned (OpenSpec.upto laneAloneSpec)

/-- 'patchbaylaw15.LaneFair', WHERE WHAT IT READS IS OF BULK AT MOST 1048576: true; the input reads as it did. -/
def laneFairUptoRow : OpenClaim := { program := "ytejplbeddcpmeaa", sum := "51102847006b36504400bd25a5c301d51ec3b54bd2a8bfbc5f31c088531161d2", func := "patchbay/patchbaylaw15.LaneFair", spec := "laneFair", unfollowed := true, recurses := true, apart := false, narrowed := true }
def LaneFairUptoSaid : Prop := laneFairUptoRow.holds Try.pinned (OpenSpec.upto laneFairSpec)

/-- 'patchbaylaw15.LaneNews', WHERE WHAT IT READS IS OF BULK AT MOST 1048576: true; the input reads as it did. -/
def laneNewsUptoRow : OpenClaim := { program := "ytejplbeddcpmeaa", sum := "51102847006b36504400bd25a5c301d51ec3b54bd2a8bfbc5f31c088531161d2", func := "patchbay/patchbaylaw15.LaneNews", spec := "laneNews", unfollowed := true, recurses := true, apart := false, narrowed := true }
def LaneNewsUptoSaid : Prop := laneNewsUptoRow.holds Try.pinned (OpenSpec.upto laneNewsSpec)

/-- 'patchbaylaw15.LaneTurns', WHERE WHAT IT READS IS OF BULK AT MOST 1048576: true; the input reads as it did. -/
def laneTurnsUptoRow : OpenClaim := { program := "ytejplbeddcpmeaa", sum := "51102847006b36504400bd25a5c301d51ec3b54bd2a8bfbc5f31c088531161d2", func := "patchbay/patchbaylaw15.LaneTurns", spec := "laneTurns", unfollowed := true, recurses := true, apart := false, narrowed := true }
def LaneTurnsUptoSaid : Prop := laneTurnsUptoRow.holds Try.pinned (OpenSpec.upto laneTurnsSpec)

end Rows
end Go.Proofs.Ytejplbeddcpmeaa
