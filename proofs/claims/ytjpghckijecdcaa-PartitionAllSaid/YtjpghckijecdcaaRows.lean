/-
  No cell of these rows narrows 'for every input' (looked for: loops, veiled, ifaces, maps, wideKeys, modest, calm, conditions, laid).
  DERIVED. THE GIVEN ROWS OF THIS SEAT. 12 by the template 'for every input the law returns true; each argument reads behind the call as it read before'; 0 by the template 'total and deterministic' (their statements: YtjpghckijecdcaaTotals.lean).
  GIVEN WITH THE SEED: the statements are not yours to turn. If you find one false, say at which input.
  Laid BY PROGRAM, IN A SANDBOX (cutbox-rows.mjs): the forced cells as the released guide's own fill.sh prints them over the translation 804be3666b74b3fa… (all of the seat's roots in one cut). By AI agents, Wed Nov 11 2026. No macro, syntax, notation, axiom, sorry.
-/
import Derived.Test.YtjpghckijecdcaaChecked
import GoSem.Claim
import GoSem.ClaimJoined
import GoSem.ClaimMapViews
import Derived.JoinedTies
import Derived.KernelRfl
namespace Go.Proofs.Ytjpghckijecdcaa
/- THE CELL 'sum', in the pinned program and in every row, IS THE sha256 OF THE DUMP (.gsa) THAT YtjpghckijecdcaaProg.lean LOADS. Nothing in Lean hashes anything: it is a label: what it is worth is what the hold of that sum in a sandbox is worth. -/
noncomputable def Try.pinned : Pinned := { name := "ytjpghckijecdcaa", sum := "804be3666b74b3fa94241f8e7c8e4029f270ddfeca411b3ac18cefb99b9b1d42", checked := Try.checked }
namespace Rows
def none {H : Type} : Left H := { results := [], args := [] }

/-- 'semigrouplaw03.PartitionCanonical': WHATEVER THE INPUT: true; the input reads as it did. -/
def partitionCanonicalSpec : ChangeSpec := { name := "partitionCanonical", fn := fun _ => fun
  | [d] => { results := [.lit (.bool true)], args := [d] }
  | _ => none }
def partitionCanonicalRow : OpenClaim := { program := "ytjpghckijecdcaa", sum := "804be3666b74b3fa94241f8e7c8e4029f270ddfeca411b3ac18cefb99b9b1d42", func := "semigroup/semigrouplaw03.PartitionCanonical", spec := "partitionCanonical", apart := false }
def PartitionCanonicalSaid : Prop := partitionCanonicalRow.holds Try.pinned (OpenSpec.ofChange partitionCanonicalSpec)

/-- ITS FALSE NEIGHBOUR: 'it returns false'. Refute it at one input. -/
def partitionCanonicalWrong : ChangeSpec := { name := "partitionCanonical", fn := fun _ => fun
  | [d] => { results := [.lit (.bool false)], args := [d] }
  | _ => none }
def PartitionCanonicalWrongFalsely : Prop := partitionCanonicalRow.holds Try.pinned (OpenSpec.ofChange partitionCanonicalWrong)

/-- 'semigrouplaw03.PartitionLists': WHATEVER THE INPUT: true; the input reads as it did. -/
def partitionListsSpec : ChangeSpec := { name := "partitionLists", fn := fun _ => fun
  | [d] => { results := [.lit (.bool true)], args := [d] }
  | _ => none }
def partitionListsRow : OpenClaim := { program := "ytjpghckijecdcaa", sum := "804be3666b74b3fa94241f8e7c8e4029f270ddfeca411b3ac18cefb99b9b1d42", func := "semigroup/semigrouplaw03.PartitionLists", spec := "partitionLists", apart := false }
def PartitionListsSaid : Prop := partitionListsRow.holds Try.pinned (OpenSpec.ofChange partitionListsSpec)

/-- ITS FALSE NEIGHBOUR: 'it returns false'. Refute it at one input. -/
def partitionListsWrong : ChangeSpec := { name := "partitionLists", fn := fun _ => fun
  | [d] => { results := [.lit (.bool false)], args := [d] }
  | _ => none }
def PartitionListsWrongFalsely : Prop := partitionListsRow.holds Try.pinned (OpenSpec.ofChange partitionListsWrong)

/-- 'semigrouplaw03.PartitionPairs': WHATEVER THE INPUT: true; the input reads as it did. -/
def partitionPairsSpec : ChangeSpec := { name := "partitionPairs", fn := fun _ => fun
  | [d1, d2] => { results := [.lit (.bool true)], args := [d1, d2] }
  | _ => none }
def partitionPairsRow : OpenClaim := { program := "ytjpghckijecdcaa", sum := "804be3666b74b3fa94241f8e7c8e4029f270ddfeca411b3ac18cefb99b9b1d42", func := "semigroup/semigrouplaw03.PartitionPairs", spec := "partitionPairs", apart := false }
def PartitionPairsSaid : Prop := partitionPairsRow.holds Try.pinned (OpenSpec.ofChange partitionPairsSpec)

/-- ITS FALSE NEIGHBOUR: 'it returns false'. Refute it at one input. -/
def partitionPairsWrong : ChangeSpec := { name := "partitionPairs", fn := fun _ => fun
  | [d1, d2] => { results := [.lit (.bool false)], args := [d1, d2] }
  | _ => none }
def PartitionPairsWrongFalsely : Prop := partitionPairsRow.holds Try.pinned (OpenSpec.ofChange partitionPairsWrong)

/-- 'semigrouplaw03.PartitionOrders': WHATEVER THE INPUT: true; the input reads as it did. -/
def partitionOrdersSpec : ChangeSpec := { name := "partitionOrders", fn := fun _ => fun
  | [d1, d2] => { results := [.lit (.bool true)], args := [d1, d2] }
  | _ => none }
def partitionOrdersRow : OpenClaim := { program := "ytjpghckijecdcaa", sum := "804be3666b74b3fa94241f8e7c8e4029f270ddfeca411b3ac18cefb99b9b1d42", func := "semigroup/semigrouplaw03.PartitionOrders", spec := "partitionOrders", apart := false }
def PartitionOrdersSaid : Prop := partitionOrdersRow.holds Try.pinned (OpenSpec.ofChange partitionOrdersSpec)

/-- ITS FALSE NEIGHBOUR: 'it returns false'. Refute it at one input. -/
def partitionOrdersWrong : ChangeSpec := { name := "partitionOrders", fn := fun _ => fun
  | [d1, d2] => { results := [.lit (.bool false)], args := [d1, d2] }
  | _ => none }
def PartitionOrdersWrongFalsely : Prop := partitionOrdersRow.holds Try.pinned (OpenSpec.ofChange partitionOrdersWrong)

/-- 'semigrouplaw03.PartitionSaturates': WHATEVER THE INPUT: true; the input reads as it did. -/
def partitionSaturatesSpec : ChangeSpec := { name := "partitionSaturates", fn := fun _ => fun
  | [d1, d2] => { results := [.lit (.bool true)], args := [d1, d2] }
  | _ => none }
def partitionSaturatesRow : OpenClaim := { program := "ytjpghckijecdcaa", sum := "804be3666b74b3fa94241f8e7c8e4029f270ddfeca411b3ac18cefb99b9b1d42", func := "semigroup/semigrouplaw03.PartitionSaturates", spec := "partitionSaturates", apart := false }
def PartitionSaturatesSaid : Prop := partitionSaturatesRow.holds Try.pinned (OpenSpec.ofChange partitionSaturatesSpec)

/-- ITS FALSE NEIGHBOUR: 'it returns false'. Refute it at one input. -/
def partitionSaturatesWrong : ChangeSpec := { name := "partitionSaturates", fn := fun _ => fun
  | [d1, d2] => { results := [.lit (.bool false)], args := [d1, d2] }
  | _ => none }
def PartitionSaturatesWrongFalsely : Prop := partitionSaturatesRow.holds Try.pinned (OpenSpec.ofChange partitionSaturatesWrong)

/-- 'semigrouplaw03.PartitionAll': WHATEVER THE INPUT: true; the input reads as it did. -/
def partitionAllSpec : ChangeSpec := { name := "partitionAll", fn := fun _ => fun
  | [d] => { results := [.lit (.bool true)], args := [d] }
  | _ => none }
def partitionAllRow : OpenClaim := { program := "ytjpghckijecdcaa", sum := "804be3666b74b3fa94241f8e7c8e4029f270ddfeca411b3ac18cefb99b9b1d42", func := "semigroup/semigrouplaw03.PartitionAll", spec := "partitionAll", apart := false }
def PartitionAllSaid : Prop := partitionAllRow.holds Try.pinned (OpenSpec.ofChange partitionAllSpec)

/-- ITS FALSE NEIGHBOUR: 'it returns false'. Refute it at one input. -/
def partitionAllWrong : ChangeSpec := { name := "partitionAll", fn := fun _ => fun
  | [d] => { results := [.lit (.bool false)], args := [d] }
  | _ => none }
def PartitionAllWrongFalsely : Prop := partitionAllRow.holds Try.pinned (OpenSpec.ofChange partitionAllWrong)

/-- 'semigrouplaw03.PartitionListed': WHATEVER THE INPUT: true; the input reads as it did. -/
def partitionListedSpec : ChangeSpec := { name := "partitionListed", fn := fun _ => fun
  | [d] => { results := [.lit (.bool true)], args := [d] }
  | _ => none }
def partitionListedRow : OpenClaim := { program := "ytjpghckijecdcaa", sum := "804be3666b74b3fa94241f8e7c8e4029f270ddfeca411b3ac18cefb99b9b1d42", func := "semigroup/semigrouplaw03.PartitionListed", spec := "partitionListed", apart := false }
def PartitionListedSaid : Prop := partitionListedRow.holds Try.pinned (OpenSpec.ofChange partitionListedSpec)

/-- ITS FALSE NEIGHBOUR: 'it returns false'. Refute it at one input. -/
def partitionListedWrong : ChangeSpec := { name := "partitionListed", fn := fun _ => fun
  | [d] => { results := [.lit (.bool false)], args := [d] }
  | _ => none }
def PartitionListedWrongFalsely : Prop := partitionListedRow.holds Try.pinned (OpenSpec.ofChange partitionListedWrong)

/-- 'semigrouplaw03.PartitionEnds': WHATEVER THE INPUT: true; the input reads as it did. -/
def partitionEndsSpec : ChangeSpec := { name := "partitionEnds", fn := fun _ => fun
  | [d] => { results := [.lit (.bool true)], args := [d] }
  | _ => none }
def partitionEndsRow : OpenClaim := { program := "ytjpghckijecdcaa", sum := "804be3666b74b3fa94241f8e7c8e4029f270ddfeca411b3ac18cefb99b9b1d42", func := "semigroup/semigrouplaw03.PartitionEnds", spec := "partitionEnds", apart := false }
def PartitionEndsSaid : Prop := partitionEndsRow.holds Try.pinned (OpenSpec.ofChange partitionEndsSpec)

/-- ITS FALSE NEIGHBOUR: 'it returns false'. Refute it at one input. -/
def partitionEndsWrong : ChangeSpec := { name := "partitionEnds", fn := fun _ => fun
  | [d] => { results := [.lit (.bool false)], args := [d] }
  | _ => none }
def PartitionEndsWrongFalsely : Prop := partitionEndsRow.holds Try.pinned (OpenSpec.ofChange partitionEndsWrong)

/-- 'semigrouplaw03.PartitionBounds': WHATEVER THE INPUT: true; the input reads as it did. -/
def partitionBoundsSpec : ChangeSpec := { name := "partitionBounds", fn := fun _ => fun
  | [d1, d2] => { results := [.lit (.bool true)], args := [d1, d2] }
  | _ => none }
def partitionBoundsRow : OpenClaim := { program := "ytjpghckijecdcaa", sum := "804be3666b74b3fa94241f8e7c8e4029f270ddfeca411b3ac18cefb99b9b1d42", func := "semigroup/semigrouplaw03.PartitionBounds", spec := "partitionBounds", apart := false }
def PartitionBoundsSaid : Prop := partitionBoundsRow.holds Try.pinned (OpenSpec.ofChange partitionBoundsSpec)

/-- ITS FALSE NEIGHBOUR: 'it returns false'. Refute it at one input. -/
def partitionBoundsWrong : ChangeSpec := { name := "partitionBounds", fn := fun _ => fun
  | [d1, d2] => { results := [.lit (.bool false)], args := [d1, d2] }
  | _ => none }
def PartitionBoundsWrongFalsely : Prop := partitionBoundsRow.holds Try.pinned (OpenSpec.ofChange partitionBoundsWrong)

/-- 'semigrouplaw03.PartitionLattice': WHATEVER THE INPUT: true; the input reads as it did. -/
def partitionLatticeSpec : ChangeSpec := { name := "partitionLattice", fn := fun _ => fun
  | [d1, d2, d3] => { results := [.lit (.bool true)], args := [d1, d2, d3] }
  | _ => none }
def partitionLatticeRow : OpenClaim := { program := "ytjpghckijecdcaa", sum := "804be3666b74b3fa94241f8e7c8e4029f270ddfeca411b3ac18cefb99b9b1d42", func := "semigroup/semigrouplaw03.PartitionLattice", spec := "partitionLattice", apart := false }
def PartitionLatticeSaid : Prop := partitionLatticeRow.holds Try.pinned (OpenSpec.ofChange partitionLatticeSpec)

/-- ITS FALSE NEIGHBOUR: 'it returns false'. Refute it at one input. -/
def partitionLatticeWrong : ChangeSpec := { name := "partitionLattice", fn := fun _ => fun
  | [d1, d2, d3] => { results := [.lit (.bool false)], args := [d1, d2, d3] }
  | _ => none }
def PartitionLatticeWrongFalsely : Prop := partitionLatticeRow.holds Try.pinned (OpenSpec.ofChange partitionLatticeWrong)

/-- 'semigrouplaw03.PartitionJoins': WHATEVER THE INPUT: true; the input reads as it did. -/
def partitionJoinsSpec : ChangeSpec := { name := "partitionJoins", fn := fun _ => fun
  | [d1, d2, d3, d4] => { results := [.lit (.bool true)], args := [d1, d2, d3, d4] }
  | _ => none }
def partitionJoinsRow : OpenClaim := { program := "ytjpghckijecdcaa", sum := "804be3666b74b3fa94241f8e7c8e4029f270ddfeca411b3ac18cefb99b9b1d42", func := "semigroup/semigrouplaw03.PartitionJoins", spec := "partitionJoins", apart := false }
def PartitionJoinsSaid : Prop := partitionJoinsRow.holds Try.pinned (OpenSpec.ofChange partitionJoinsSpec)

/-- ITS FALSE NEIGHBOUR: 'it returns false'. Refute it at one input. -/
def partitionJoinsWrong : ChangeSpec := { name := "partitionJoins", fn := fun _ => fun
  | [d1, d2, d3, d4] => { results := [.lit (.bool false)], args := [d1, d2, d3, d4] }
  | _ => none }
def PartitionJoinsWrongFalsely : Prop := partitionJoinsRow.holds Try.pinned (OpenSpec.ofChange partitionJoinsWrong)

/-- 'semigrouplaw03.PartitionExtremes': WHATEVER THE INPUT: true; the input reads as it did. -/
def partitionExtremesSpec : ChangeSpec := { name := "partitionExtremes", fn := fun _ => fun
  | [d1, d2, d3] => { results := [.lit (.bool true)], args := [d1, d2, d3] }
  | _ => none }
def partitionExtremesRow : OpenClaim := { program := "ytjpghckijecdcaa", sum := "804be3666b74b3fa94241f8e7c8e4029f270ddfeca411b3ac18cefb99b9b1d42", func := "semigroup/semigrouplaw03.PartitionExtremes", spec := "partitionExtremes", apart := false }
def PartitionExtremesSaid : Prop := partitionExtremesRow.holds Try.pinned (OpenSpec.ofChange partitionExtremesSpec)

/-- ITS FALSE NEIGHBOUR: 'it returns false'. Refute it at one input. -/
def partitionExtremesWrong : ChangeSpec := { name := "partitionExtremes", fn := fun _ => fun
  | [d1, d2, d3] => { results := [.lit (.bool false)], args := [d1, d2, d3] }
  | _ => none }
def PartitionExtremesWrongFalsely : Prop := partitionExtremesRow.holds Try.pinned (OpenSpec.ofChange partitionExtremesWrong)

/- THE SECOND FORM. 'bulk': how many values and letters a reading holds, each counted each time it is reached (what is shared counts as often as it is met; a slice's spare places count too). A statement '..UptoSaid' is the law's where the arguments, and the package variables that the reading takes, are together of bulk at most 1048576: NARROWER than '..Said'. Prove '..Said' where nothing that the law and all that it calls make is longer than what came in: it says more and counts as full. Else prove '..UptoSaid'. A law counts once. -/
mutual
def uptoBulk {H : Type} : DataW H → Nat
  | .lit (.string bytes) => bytes.length + 1
  | .lit _ => 1
  | .nil => 1
  | .ptr d => uptoBulk d + 1
  | .slice elems spare => uptoBulkAll elems + uptoBulkAll spare + 1
  | .agg parts => uptoBulkAll parts + 1
  | .iface _ d => uptoBulk d + 1
  | .map entries => uptoBulkEntries entries + 1
  | .held _ => 1
def uptoBulkAll {H : Type} : List (DataW H) → Nat
  | [] => 0
  | d :: r => uptoBulk d + uptoBulkAll r
def uptoBulkEntries {H : Type} : List (Lit × DataW H) → Nat
  | [] => 0
  | x :: r => uptoBulkEntry x + uptoBulkEntries r
def uptoBulkEntry {H : Type} : Lit × DataW H → Nat
  | (.string bytes, d) => bytes.length + uptoBulk d + 1
  | (_, d) => uptoBulk d + 1
 end
def uptoSmall : (H : Type) → List (DataW H) → Bool := fun _ ds => decide (uptoBulkAll ds ≤ 1048576)
def OpenSpec.upto (s : _root_.Go.ChangeSpec) : _root_.Go.OpenSpec := { _root_.Go.OpenSpec.ofChange s with cond := some uptoSmall }

/-- 'semigrouplaw03.PartitionCanonical', WHERE WHAT IT READS IS OF BULK AT MOST 1048576: true; the input reads as it did. -/
def partitionCanonicalUptoRow : OpenClaim := { program := "ytjpghckijecdcaa", sum := "804be3666b74b3fa94241f8e7c8e4029f270ddfeca411b3ac18cefb99b9b1d42", func := "semigroup/semigrouplaw03.PartitionCanonical", spec := "partitionCanonical", apart := false, narrowed := true }
def PartitionCanonicalUptoSaid : Prop := partitionCanonicalUptoRow.holds Try.pinned (OpenSpec.upto partitionCanonicalSpec)

/-- 'semigrouplaw03.PartitionLists', WHERE WHAT IT READS IS OF BULK AT MOST 1048576: true; the input reads as it did. -/
def partitionListsUptoRow : OpenClaim := { program := "ytjpghckijecdcaa", sum := "804be3666b74b3fa94241f8e7c8e4029f270ddfeca411b3ac18cefb99b9b1d42", func := "semigroup/semigrouplaw03.PartitionLists", spec := "partitionLists", apart := false, narrowed := true }
def PartitionListsUptoSaid : Prop := partitionListsUptoRow.holds Try.pinned (OpenSpec.upto partitionListsSpec)

/-- 'semigrouplaw03.PartitionPairs', WHERE WHAT IT READS IS OF BULK AT MOST 1048576: true; the input reads as it did. -/
def partitionPairsUptoRow : OpenClaim := { program := "ytjpghckijecdcaa", sum := "804be3666b74b3fa94241f8e7c8e4029f270ddfeca411b3ac18cefb99b9b1d42", func := "semigroup/semigrouplaw03.PartitionPairs", spec := "partitionPairs", apart := false, narrowed := true }
def PartitionPairsUptoSaid : Prop := partitionPairsUptoRow.holds Try.pinned (OpenSpec.upto partitionPairsSpec)

/-- 'semigrouplaw03.PartitionOrders', WHERE WHAT IT READS IS OF BULK AT MOST 1048576: true; the input reads as it did. -/
def partitionOrdersUptoRow : OpenClaim := { program := "ytjpghckijecdcaa", sum := "804be3666b74b3fa94241f8e7c8e4029f270ddfeca411b3ac18cefb99b9b1d42", func := "semigroup/semigrouplaw03.PartitionOrders", spec := "partitionOrders", apart := false, narrowed := true }
def PartitionOrdersUptoSaid : Prop := partitionOrdersUptoRow.holds Try.pinned (OpenSpec.upto partitionOrdersSpec)

/-- 'semigrouplaw03.PartitionSaturates', WHERE WHAT IT READS IS OF BULK AT MOST 1048576: true; the input reads as it did. -/
def partitionSaturatesUptoRow : OpenClaim := { program := "ytjpghckijecdcaa", sum := "804be3666b74b3fa94241f8e7c8e4029f270ddfeca411b3ac18cefb99b9b1d42", func := "semigroup/semigrouplaw03.PartitionSaturates", spec := "partitionSaturates", apart := false, narrowed := true }
def PartitionSaturatesUptoSaid : Prop := partitionSaturatesUptoRow.holds Try.pinned (OpenSpec.upto partitionSaturatesSpec)

/-- 'semigrouplaw03.PartitionAll', WHERE WHAT IT READS IS OF BULK AT MOST 1048576: true; the input reads as it did. -/
def partitionAllUptoRow : OpenClaim := { program := "ytjpghckijecdcaa", sum := "804be3666b74b3fa94241f8e7c8e4029f270ddfeca411b3ac18cefb99b9b1d42", func := "semigroup/semigrouplaw03.PartitionAll", spec := "partitionAll", apart := false, narrowed := true }
def PartitionAllUptoSaid : Prop := partitionAllUptoRow.holds Try.pinned (OpenSpec.upto partitionAllSpec)

/-- 'semigrouplaw03.PartitionListed', WHERE WHAT IT READS IS OF BULK AT MOST 1048576: true; the input reads as it did. -/
def partitionListedUptoRow : OpenClaim := { program := "ytjpghckijecdcaa", sum := "804be3666b74b3fa94241f8e7c8e4029f270ddfeca411b3ac18cefb99b9b1d42", func := "semigroup/semigrouplaw03.PartitionListed", spec := "partitionListed", apart := false, narrowed := true }
def PartitionListedUptoSaid : Prop := partitionListedUptoRow.holds Try.pinned (OpenSpec.upto partitionListedSpec)

/-- 'semigrouplaw03.PartitionEnds', WHERE WHAT IT READS IS OF BULK AT MOST 1048576: true; the input reads as it did. -/
def partitionEndsUptoRow : OpenClaim := { program := "ytjpghckijecdcaa", sum := "804be3666b74b3fa94241f8e7c8e4029f270ddfeca411b3ac18cefb99b9b1d42", func := "semigroup/semigrouplaw03.PartitionEnds", spec := "partitionEnds", apart := false, narrowed := true }
def PartitionEndsUptoSaid : Prop := partitionEndsUptoRow.holds Try.pinned (OpenSpec.upto partitionEndsSpec)

/-- 'semigrouplaw03.PartitionBounds', WHERE WHAT IT READS IS OF BULK AT MOST 1048576: true; the input reads as it did. -/
def partitionBoundsUptoRow : OpenClaim := { program := "ytjpghckijecdcaa", sum := "804be3666b74b3fa94241f8e7c8e4029f270ddfeca411b3ac18cefb99b9b1d42", func := "semigroup/semigrouplaw03.PartitionBounds", spec := "partitionBounds", apart := false, narrowed := true }
def PartitionBoundsUptoSaid : Prop := partitionBoundsUptoRow.holds Try.pinned (OpenSpec.upto partitionBoundsSpec)

/-- 'semigrouplaw03.PartitionLattice', WHERE WHAT IT READS IS OF BULK AT MOST 1048576: true; the input reads as it did. -/
def partitionLatticeUptoRow : OpenClaim := { program := "ytjpghckijecdcaa", sum := "804be3666b74b3fa94241f8e7c8e4029f270ddfeca411b3ac18cefb99b9b1d42", func := "semigroup/semigrouplaw03.PartitionLattice", spec := "partitionLattice", apart := false, narrowed := true }
def PartitionLatticeUptoSaid : Prop := partitionLatticeUptoRow.holds Try.pinned (OpenSpec.upto partitionLatticeSpec)

/-- 'semigrouplaw03.PartitionJoins', WHERE WHAT IT READS IS OF BULK AT MOST 1048576: true; the input reads as it did. -/
def partitionJoinsUptoRow : OpenClaim := { program := "ytjpghckijecdcaa", sum := "804be3666b74b3fa94241f8e7c8e4029f270ddfeca411b3ac18cefb99b9b1d42", func := "semigroup/semigrouplaw03.PartitionJoins", spec := "partitionJoins", apart := false, narrowed := true }
def PartitionJoinsUptoSaid : Prop := partitionJoinsUptoRow.holds Try.pinned (OpenSpec.upto partitionJoinsSpec)

/-- 'semigrouplaw03.PartitionExtremes', WHERE WHAT IT READS IS OF BULK AT MOST 1048576: true; the input reads as it did. -/
def partitionExtremesUptoRow : OpenClaim := { program := "ytjpghckijecdcaa", sum := "804be3666b74b3fa94241f8e7c8e4029f270ddfeca411b3ac18cefb99b9b1d42", func := "semigroup/semigrouplaw03.PartitionExtremes", spec := "partitionExtremes", apart := false, narrowed := true }
def PartitionExtremesUptoSaid : Prop := partitionExtremesUptoRow.holds Try.pinned (OpenSpec.upto partitionExtremesSpec)

end Rows
end Go.Proofs.Ytjpghckijecdcaa
