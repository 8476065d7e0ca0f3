/-
  No cell of these rows narrows 'for every input' (looked for: loops, veiled, ifaces, maps, wideKeys, modest, calm, conditions, laid).
  DERIVED. THE GIVEN ROWS OF THIS SEAT. 10 by the template 'for every input the law returns true; each argument reads behind the call as it read before'; 0 by the template 'total and deterministic' (their statements: YtkgghjblfoempaaTotals.lean).
  GIVEN WITH THE SEED: the statements are not yours to turn. If you find one false, say at which input.
  Laid BY PROGRAM, IN A SANDBOX (cutbox-rows.mjs): the forced cells as the released guide's own fill.sh prints them over the translation 5f5bd9e19c7b5b1b… (all of the seat's roots in one cut). By AI agents, Wed Nov 11 2026. No macro, syntax, notation, axiom, sorry.
-/
import Derived.Test.YtkgghjblfoempaaChecked
import GoSem.Claim
import GoSem.ClaimJoined
import GoSem.ClaimMapViews
import Derived.JoinedTies
import Derived.KernelRfl
namespace Go.Proofs.Ytkgghjblfoempaa
/- THE CELL 'sum', in the pinned program and in every row, IS THE sha256 OF THE DUMP (.gsa) THAT YtkgghjblfoempaaProg.lean LOADS. Nothing in Lean hashes anything: it is a label: what it is worth is what the hold of that sum in a sandbox is worth. -/
noncomputable def Try.pinned : Pinned := { name := "ytkgghjblfoempaa", sum := "5f5bd9e19c7b5b1be2e5c473ac0c90967474189d3b4c042c1842719197af3c39", checked := Try.checked }
namespace Rows
def none {H : Type} : Left H := { results := [], args := [] }

/-- 'patchbaylaw06.MemLocks': WHATEVER THE INPUT: true; the input reads as it did. -/
def memLocksSpec : ChangeSpec := { name := "memLocks", fn := fun _ => fun
  | [d1, d2] => { results := [.lit (.bool true)], args := [d1, d2] }
  | _ => none }
def memLocksRow : OpenClaim := { program := "ytkgghjblfoempaa", sum := "5f5bd9e19c7b5b1be2e5c473ac0c90967474189d3b4c042c1842719197af3c39", func := "patchbay/patchbaylaw06.MemLocks", spec := "memLocks", apart := false }
def MemLocksSaid : Prop := memLocksRow.holds Try.pinned (OpenSpec.ofChange memLocksSpec)

/-- ITS FALSE NEIGHBOUR: 'it returns false'. Refute it at one input. -/
def memLocksWrong : ChangeSpec := { name := "memLocks", fn := fun _ => fun
  | [d1, d2] => { results := [.lit (.bool false)], args := [d1, d2] }
  | _ => none }
def MemLocksWrongFalsely : Prop := memLocksRow.holds Try.pinned (OpenSpec.ofChange memLocksWrong)

/-- 'patchbaylaw06.MemApart': WHATEVER THE INPUT: true; the input reads as it did. -/
def memApartSpec : ChangeSpec := { name := "memApart", fn := fun _ => fun
  | [d1, d2] => { results := [.lit (.bool true)], args := [d1, d2] }
  | _ => none }
def memApartRow : OpenClaim := { program := "ytkgghjblfoempaa", sum := "5f5bd9e19c7b5b1be2e5c473ac0c90967474189d3b4c042c1842719197af3c39", func := "patchbay/patchbaylaw06.MemApart", spec := "memApart", apart := false }
def MemApartSaid : Prop := memApartRow.holds Try.pinned (OpenSpec.ofChange memApartSpec)

/-- ITS FALSE NEIGHBOUR: 'it returns false'. Refute it at one input. -/
def memApartWrong : ChangeSpec := { name := "memApart", fn := fun _ => fun
  | [d1, d2] => { results := [.lit (.bool false)], args := [d1, d2] }
  | _ => none }
def MemApartWrongFalsely : Prop := memApartRow.holds Try.pinned (OpenSpec.ofChange memApartWrong)

/-- 'patchbaylaw06.MemActs': WHATEVER THE INPUT: true; the input reads as it did. -/
def memActsSpec : ChangeSpec := { name := "memActs", fn := fun _ => fun
  | [d1, d2, d3] => { results := [.lit (.bool true)], args := [d1, d2, d3] }
  | _ => none }
def memActsRow : OpenClaim := { program := "ytkgghjblfoempaa", sum := "5f5bd9e19c7b5b1be2e5c473ac0c90967474189d3b4c042c1842719197af3c39", func := "patchbay/patchbaylaw06.MemActs", spec := "memActs", apart := false }
def MemActsSaid : Prop := memActsRow.holds Try.pinned (OpenSpec.ofChange memActsSpec)

/-- ITS FALSE NEIGHBOUR: 'it returns false'. Refute it at one input. -/
def memActsWrong : ChangeSpec := { name := "memActs", fn := fun _ => fun
  | [d1, d2, d3] => { results := [.lit (.bool false)], args := [d1, d2, d3] }
  | _ => none }
def MemActsWrongFalsely : Prop := memActsRow.holds Try.pinned (OpenSpec.ofChange memActsWrong)

/-- 'patchbaylaw06.MemNews': WHATEVER THE INPUT: true; the input reads as it did. -/
def memNewsSpec : ChangeSpec := { name := "memNews", fn := fun _ => fun
  | [d1, d2, d3] => { results := [.lit (.bool true)], args := [d1, d2, d3] }
  | _ => none }
def memNewsRow : OpenClaim := { program := "ytkgghjblfoempaa", sum := "5f5bd9e19c7b5b1be2e5c473ac0c90967474189d3b4c042c1842719197af3c39", func := "patchbay/patchbaylaw06.MemNews", spec := "memNews", apart := false }
def MemNewsSaid : Prop := memNewsRow.holds Try.pinned (OpenSpec.ofChange memNewsSpec)

/-- ITS FALSE NEIGHBOUR: 'it returns false'. Refute it at one input. -/
def memNewsWrong : ChangeSpec := { name := "memNews", fn := fun _ => fun
  | [d1, d2, d3] => { results := [.lit (.bool false)], args := [d1, d2, d3] }
  | _ => none }
def MemNewsWrongFalsely : Prop := memNewsRow.holds Try.pinned (OpenSpec.ofChange memNewsWrong)

/-- 'patchbaylaw05.GaugePlays': WHATEVER THE INPUT: true; the input reads as it did. -/
def gaugePlaysSpec : ChangeSpec := { name := "gaugePlays", fn := fun _ => fun
  | [d1, d2] => { results := [.lit (.bool true)], args := [d1, d2] }
  | _ => none }
def gaugePlaysRow : OpenClaim := { program := "ytkgghjblfoempaa", sum := "5f5bd9e19c7b5b1be2e5c473ac0c90967474189d3b4c042c1842719197af3c39", func := "patchbay/patchbaylaw05.GaugePlays", spec := "gaugePlays", inPlace := ["math.Float64bits", "math.Float64frombits"], apart := false }
def GaugePlaysSaid : Prop := gaugePlaysRow.holds Try.pinned (OpenSpec.ofChange gaugePlaysSpec)

/-- ITS FALSE NEIGHBOUR: 'it returns false'. Refute it at one input. -/
def gaugePlaysWrong : ChangeSpec := { name := "gaugePlays", fn := fun _ => fun
  | [d1, d2] => { results := [.lit (.bool false)], args := [d1, d2] }
  | _ => none }
def GaugePlaysWrongFalsely : Prop := gaugePlaysRow.holds Try.pinned (OpenSpec.ofChange gaugePlaysWrong)

/-- 'patchbaylaw05.GaugeShuts': WHATEVER THE INPUT: true; the input reads as it did. -/
def gaugeShutsSpec : ChangeSpec := { name := "gaugeShuts", fn := fun _ => fun
  | [d1, d2, d3] => { results := [.lit (.bool true)], args := [d1, d2, d3] }
  | _ => none }
def gaugeShutsRow : OpenClaim := { program := "ytkgghjblfoempaa", sum := "5f5bd9e19c7b5b1be2e5c473ac0c90967474189d3b4c042c1842719197af3c39", func := "patchbay/patchbaylaw05.GaugeShuts", spec := "gaugeShuts", inPlace := ["math.Float64bits", "math.Float64frombits"], apart := false }
def GaugeShutsSaid : Prop := gaugeShutsRow.holds Try.pinned (OpenSpec.ofChange gaugeShutsSpec)

/-- ITS FALSE NEIGHBOUR: 'it returns false'. Refute it at one input. -/
def gaugeShutsWrong : ChangeSpec := { name := "gaugeShuts", fn := fun _ => fun
  | [d1, d2, d3] => { results := [.lit (.bool false)], args := [d1, d2, d3] }
  | _ => none }
def GaugeShutsWrongFalsely : Prop := gaugeShutsRow.holds Try.pinned (OpenSpec.ofChange gaugeShutsWrong)

/-- 'patchbaylaw05.GaugeOpens': WHATEVER THE INPUT: true; the input reads as it did. -/
def gaugeOpensSpec : ChangeSpec := { name := "gaugeOpens", fn := fun _ => fun
  | [d1, d2, d3] => { results := [.lit (.bool true)], args := [d1, d2, d3] }
  | _ => none }
def gaugeOpensRow : OpenClaim := { program := "ytkgghjblfoempaa", sum := "5f5bd9e19c7b5b1be2e5c473ac0c90967474189d3b4c042c1842719197af3c39", func := "patchbay/patchbaylaw05.GaugeOpens", spec := "gaugeOpens", inPlace := ["math.Float64bits", "math.Float64frombits"], apart := false }
def GaugeOpensSaid : Prop := gaugeOpensRow.holds Try.pinned (OpenSpec.ofChange gaugeOpensSpec)

/-- ITS FALSE NEIGHBOUR: 'it returns false'. Refute it at one input. -/
def gaugeOpensWrong : ChangeSpec := { name := "gaugeOpens", fn := fun _ => fun
  | [d1, d2, d3] => { results := [.lit (.bool false)], args := [d1, d2, d3] }
  | _ => none }
def GaugeOpensWrongFalsely : Prop := gaugeOpensRow.holds Try.pinned (OpenSpec.ofChange gaugeOpensWrong)

/-- 'patchbaylaw05.GaugeFills': WHATEVER THE INPUT: true; the input reads as it did. -/
def gaugeFillsSpec : ChangeSpec := { name := "gaugeFills", fn := fun _ => fun
  | [d1, d2, d3] => { results := [.lit (.bool true)], args := [d1, d2, d3] }
  | _ => none }
def gaugeFillsRow : OpenClaim := { program := "ytkgghjblfoempaa", sum := "5f5bd9e19c7b5b1be2e5c473ac0c90967474189d3b4c042c1842719197af3c39", func := "patchbay/patchbaylaw05.GaugeFills", spec := "gaugeFills", inPlace := ["math.Float64bits", "math.Float64frombits"], apart := false }
def GaugeFillsSaid : Prop := gaugeFillsRow.holds Try.pinned (OpenSpec.ofChange gaugeFillsSpec)

/-- ITS FALSE NEIGHBOUR: 'it returns false'. Refute it at one input. -/
def gaugeFillsWrong : ChangeSpec := { name := "gaugeFills", fn := fun _ => fun
  | [d1, d2, d3] => { results := [.lit (.bool false)], args := [d1, d2, d3] }
  | _ => none }
def GaugeFillsWrongFalsely : Prop := gaugeFillsRow.holds Try.pinned (OpenSpec.ofChange gaugeFillsWrong)

/-- 'patchbaylaw05.GaugeOrders': WHATEVER THE INPUT: true; the input reads as it did. -/
def gaugeOrdersSpec : ChangeSpec := { name := "gaugeOrders", fn := fun _ => fun
  | [d1, d2, d3] => { results := [.lit (.bool true)], args := [d1, d2, d3] }
  | _ => none }
def gaugeOrdersRow : OpenClaim := { program := "ytkgghjblfoempaa", sum := "5f5bd9e19c7b5b1be2e5c473ac0c90967474189d3b4c042c1842719197af3c39", func := "patchbay/patchbaylaw05.GaugeOrders", spec := "gaugeOrders", inPlace := ["math.Float64bits", "math.Float64frombits"], apart := false }
def GaugeOrdersSaid : Prop := gaugeOrdersRow.holds Try.pinned (OpenSpec.ofChange gaugeOrdersSpec)

/-- ITS FALSE NEIGHBOUR: 'it returns false'. Refute it at one input. -/
def gaugeOrdersWrong : ChangeSpec := { name := "gaugeOrders", fn := fun _ => fun
  | [d1, d2, d3] => { results := [.lit (.bool false)], args := [d1, d2, d3] }
  | _ => none }
def GaugeOrdersWrongFalsely : Prop := gaugeOrdersRow.holds Try.pinned (OpenSpec.ofChange gaugeOrdersWrong)

/-- 'patchbaylaw05.GaugeRates': WHATEVER THE INPUT: true; the input reads as it did. -/
def gaugeRatesSpec : ChangeSpec := { name := "gaugeRates", fn := fun _ => fun
  | [d1, d2, d3] => { results := [.lit (.bool true)], args := [d1, d2, d3] }
  | _ => none }
def gaugeRatesRow : OpenClaim := { program := "ytkgghjblfoempaa", sum := "5f5bd9e19c7b5b1be2e5c473ac0c90967474189d3b4c042c1842719197af3c39", func := "patchbay/patchbaylaw05.GaugeRates", spec := "gaugeRates", inPlace := ["math.Float64bits", "math.Float64frombits"], apart := false }
def GaugeRatesSaid : Prop := gaugeRatesRow.holds Try.pinned (OpenSpec.ofChange gaugeRatesSpec)

/-- ITS FALSE NEIGHBOUR: 'it returns false'. Refute it at one input. -/
def gaugeRatesWrong : ChangeSpec := { name := "gaugeRates", fn := fun _ => fun
  | [d1, d2, d3] => { results := [.lit (.bool false)], args := [d1, d2, d3] }
  | _ => none }
def GaugeRatesWrongFalsely : Prop := gaugeRatesRow.holds Try.pinned (OpenSpec.ofChange gaugeRatesWrong)

/- THE SECOND FORM. 'bulk': how many values and letters a reading holds, each counted each time it is reached (what is shared counts as often as it is met; a slice's spare places count too). A statement '..UptoSaid' is the law's where the arguments, and the package variables that the reading takes, are together of bulk at most 1048576: NARROWER than '..Said'. Prove '..Said' where nothing that the law and all that it calls make is longer than what came in: it says more and counts as full. Else prove '..UptoSaid'. A law counts once. -/
mutual
def uptoBulk {H : Type} : DataW H → Nat
  | .lit (.string bytes) => bytes.length + 1
  | .lit _ => 1
  | .nil => 1
  | .ptr d => uptoBulk d + 1
  | .slice elems spare => uptoBulkAll elems + uptoBulkAll spare + 1
  | .agg parts => uptoBulkAll parts + 1
  | .iface _ d => uptoBulk d + 1
  | .map entries => uptoBulkEntries entries + 1
  | .held _ => 1
def uptoBulkAll {H : Type} : List (DataW H) → Nat
  | [] => 0
  | d :: r => uptoBulk d + uptoBulkAll r
def uptoBulkEntries {H : Type} : List (Lit × DataW H) → Nat
  | [] => 0
  | x :: r => uptoBulkEntry x + uptoBulkEntries r
def uptoBulkEntry {H : Type} : Lit × DataW H → Nat
  | (.string bytes, d) => bytes.length + uptoBulk d + 1
  | (_, d) => uptoBulk d + 1
 end
def uptoSmall : (H : Type) → List (DataW H) → Bool := fun _ ds => decide (uptoBulkAll ds ≤ 1048576)
def OpenSpec.upto (s : _root_.Go.ChangeSpec) : _root_.Go.OpenSpec := { _root_.Go.OpenSpec.ofChange s with cond := some uptoSmall }

/-- 'patchbaylaw06.MemLocks', WHERE WHAT IT READS IS OF BULK AT MOST 1048576: true; the input reads as it did. -/
def memLocksUptoRow : OpenClaim := { program := "ytkgghjblfoempaa", sum := "5f5bd9e19c7b5b1be2e5c473ac0c90967474189d3b4c042c1842719197af3c39", func := "patchbay/patchbaylaw06.MemLocks", spec := "memLocks", apart := false, narrowed := true }
def MemLocksUptoSaid : Prop := memLocksUptoRow.holds Try.pinned (OpenSpec.upto memLocksSpec)

/-- 'patchbaylaw06.MemApart', WHERE WHAT IT READS IS OF BULK AT MOST 1048576: true; the input reads as it did. -/
def memApartUptoRow : OpenClaim := { program := "ytkgghjblfoempaa", sum := "5f5bd9e19c7b5b1be2e5c473ac0c90967474189d3b4c042c1842719197af3c39", func := "patchbay/patchbaylaw06.MemApart", spec := "memApart", apart := false, narrowed := true }
def MemApartUptoSaid : Prop := memApartUptoRow.holds Try.pinned (OpenSpec.upto memApartSpec)

/-- 'patchbaylaw06.MemActs', WHERE WHAT IT READS IS OF BULK AT MOST 1048576: true; the input reads as it did. -/
def memActsUptoRow : OpenClaim := { program := "ytkgghjblfoempaa", sum := "5f5bd9e19c7b5b1be2e5c473ac0c90967474189d3b4c042c1842719197af3c39", func := "patchbay/patchbaylaw06.MemActs", spec := "memActs", apart := false, narrowed := true }
def MemActsUptoSaid : Prop := memActsUptoRow.holds Try.pinned (OpenSpec.upto memActsSpec)

/-- 'patchbaylaw06.MemNews', WHERE WHAT IT READS IS OF BULK AT MOST 1048576: true; the input reads as it did. -/
def memNewsUptoRow : OpenClaim := { program := "ytkgghjblfoempaa", sum := "5f5bd9e19c7b5b1be2e5c473ac0c90967474189d3b4c042c1842719197af3c39", func := "patchbay/patchbaylaw06.MemNews", spec := "memNews", apart := false, narrowed := true }
def MemNewsUptoSaid : Prop := memNewsUptoRow.holds Try.pinned (OpenSpec.upto memNewsSpec)

/-- 'patchbaylaw05.GaugePlays', WHERE WHAT IT READS IS OF BULK AT MOST 1048576: true; the input reads as it did. -/
def gaugePlaysUptoRow : OpenClaim := { program := "ytkgghjblfoempaa", sum := "5f5bd9e19c7b5b1be2e5c473ac0c90967474189d3b4c042c1842719197af3c39", func := "patchbay/patchbaylaw05.GaugePlays", spec := "gaugePlays", inPlace := ["math.Float64bits", "math.Float64frombits"], apart := false, narrowed := true }
def GaugePlaysUptoSaid : Prop := gaugePlaysUptoRow.holds Try.pinned (OpenSpec.upto gaugePlaysSpec)

/-- 'patchbaylaw05.GaugeShuts', WHERE WHAT IT READS IS OF BULK AT MOST 1048576: true; the input reads as it did. -/
def gaugeShutsUptoRow : OpenClaim := { program := "ytkgghjblfoempaa", sum := "5f5bd9e19c7b5b1be2e5c473ac0c90967474189d3b4c042c1842719197af3c39", func := "patchbay/patchbaylaw05.GaugeShuts", spec := "gaugeShuts", inPlace := ["math.Float64bits", "math.Float64frombits"], apart := false, narrowed := true }
def GaugeShutsUptoSaid : Prop := gaugeShutsUptoRow.holds Try.pinned (OpenSpec.upto gaugeShutsSpec)

/-- 'patchbaylaw05.GaugeOpens', WHERE WHAT IT READS IS OF BULK AT MOST 1048576: true; the input reads as it did. -/
def gaugeOpensUptoRow : OpenClaim := { program := "ytkgghjblfoempaa", sum := "5f5bd9e19c7b5b1be2e5c473ac0c90967474189d3b4c042c1842719197af3c39", func := "patchbay/patchbaylaw05.GaugeOpens", spec := "gaugeOpens", inPlace := ["math.Float64bits", "math.Float64frombits"], apart := false, narrowed := true }
def GaugeOpensUptoSaid : Prop := gaugeOpensUptoRow.holds Try.pinned (OpenSpec.upto gaugeOpensSpec)

/-- 'patchbaylaw05.GaugeFills', WHERE WHAT IT READS IS OF BULK AT MOST 1048576: true; the input reads as it did. -/
def gaugeFillsUptoRow : OpenClaim := { program := "ytkgghjblfoempaa", sum := "5f5bd9e19c7b5b1be2e5c473ac0c90967474189d3b4c042c1842719197af3c39", func := "patchbay/patchbaylaw05.GaugeFills", spec := "gaugeFills", inPlace := ["math.Float64bits", "math.Float64frombits"], apart := false, narrowed := true }
def GaugeFillsUptoSaid : Prop := gaugeFillsUptoRow.holds Try.pinned (OpenSpec.upto gaugeFillsSpec)

/-- 'patchbaylaw05.GaugeOrders', WHERE WHAT IT READS IS OF BULK AT MOST 1048576: true; the input reads as it did. -/
def gaugeOrdersUptoRow : OpenClaim := { program := "ytkgghjblfoempaa", sum := "5f5bd9e19c7b5b1be2e5c473ac0c90967474189d3b4c042c1842719197af3c39", func := "patchbay/patchbaylaw05.GaugeOrders", spec := "gaugeOrders", inPlace := ["math.Float64bits", "math.Float64frombits"], apart := false, narrowed := true }
def GaugeOrdersUptoSaid : Prop := gaugeOrdersUptoRow.holds Try.pinned (OpenSpec.upto gaugeOrdersSpec)

/-- 'patchbaylaw05.GaugeRates', WHERE WHAT IT READS IS OF BULK AT MOST 1048576: true; the input reads as it did. -/
def gaugeRatesUptoRow : OpenClaim := { program := "ytkgghjblfoempaa", sum := "5f5bd9e19c7b5b1be2e5c473ac0c90967474189d3b4c042c1842719197af3c39", func := "patchbay/patchbaylaw05.GaugeRates", spec := "gaugeRates", inPlace := ["math.Float64bits", "math.Float64frombits"], apart := false, narrowed := true }
def GaugeRatesUptoSaid : Prop := gaugeRatesUptoRow.holds Try.pinned (OpenSpec.upto gaugeRatesSpec)

end Rows
end Go.Proofs.Ytkgghjblfoempaa
