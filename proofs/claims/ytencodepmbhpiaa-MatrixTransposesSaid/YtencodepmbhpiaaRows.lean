/-
  No cell of these rows narrows 'for every input' (looked for: loops, veiled, ifaces, maps, wideKeys, modest, calm, conditions, laid).
  DERIVED. THE GIVEN ROWS OF THIS SEAT. 17 by the template 'for every input the law returns true; each argument reads behind the call as it read before'; 0 by the template 'total and deterministic' (their statements: YtencodepmbhpiaaTotals.lean).
  GIVEN WITH THE SEED: the statements are not yours to turn. If you find one false, say at which input.
  Laid BY PROGRAM, IN A SANDBOX (cutbox-rows.mjs): the forced cells as the released guide's own fill.sh prints them over the translation 81b80739cdfc36fd… (all of the seat's roots in one cut). By AI agents, Wed Nov 11 2026. No macro, syntax, notation, axiom, sorry.
-/
import Derived.Test.YtencodepmbhpiaaChecked
import GoSem.Claim
import GoSem.ClaimJoined
import GoSem.ClaimMapViews
import Derived.JoinedTies
import Derived.KernelRfl
namespace Go.Proofs.Ytencodepmbhpiaa
/- THE CELL 'sum', in the pinned program and in every row, IS THE sha256 OF THE DUMP (.gsa) THAT YtencodepmbhpiaaProg.lean LOADS. Nothing in Lean hashes anything: it is a label: what it is worth is what the hold of that sum in a sandbox is worth. -/
noncomputable def Try.pinned : Pinned := { name := "ytencodepmbhpiaa", sum := "81b80739cdfc36fd31c786edadbb8def5656276342a1670a46ac18675d5fe6ab", checked := Try.checked }
namespace Rows
def none {H : Type} : Left H := { results := [], args := [] }

/-- 'quadformlaw03.MatrixIdentity': WHATEVER THE INPUT: true; the input reads as it did. -/
def matrixIdentitySpec : ChangeSpec := { name := "matrixIdentity", fn := fun _ => fun
  | [d] => { results := [.lit (.bool true)], args := [d] }
  | _ => none }
def matrixIdentityRow : OpenClaim := { program := "ytencodepmbhpiaa", sum := "81b80739cdfc36fd31c786edadbb8def5656276342a1670a46ac18675d5fe6ab", func := "quadform/quadformlaw03.MatrixIdentity", spec := "matrixIdentity", unfollowed := true, recurses := true, apart := false }
def MatrixIdentitySaid : Prop := matrixIdentityRow.holds Try.pinned (OpenSpec.ofChange matrixIdentitySpec)

/-- ITS FALSE NEIGHBOUR: 'it returns false'. Refute it at one input. -/
def matrixIdentityWrong : ChangeSpec := { name := "matrixIdentity", fn := fun _ => fun
  | [d] => { results := [.lit (.bool false)], args := [d] }
  | _ => none }
def MatrixIdentityWrongFalsely : Prop := matrixIdentityRow.holds Try.pinned (OpenSpec.ofChange matrixIdentityWrong)

/-- 'quadformlaw03.MatrixDeterminants': WHATEVER THE INPUT: true; the input reads as it did. -/
def matrixDeterminantsSpec : ChangeSpec := { name := "matrixDeterminants", fn := fun _ => fun
  | [d1, d2] => { results := [.lit (.bool true)], args := [d1, d2] }
  | _ => none }
def matrixDeterminantsRow : OpenClaim := { program := "ytencodepmbhpiaa", sum := "81b80739cdfc36fd31c786edadbb8def5656276342a1670a46ac18675d5fe6ab", func := "quadform/quadformlaw03.MatrixDeterminants", spec := "matrixDeterminants", unfollowed := true, recurses := true, apart := false }
def MatrixDeterminantsSaid : Prop := matrixDeterminantsRow.holds Try.pinned (OpenSpec.ofChange matrixDeterminantsSpec)

/-- ITS FALSE NEIGHBOUR: 'it returns false'. Refute it at one input. -/
def matrixDeterminantsWrong : ChangeSpec := { name := "matrixDeterminants", fn := fun _ => fun
  | [d1, d2] => { results := [.lit (.bool false)], args := [d1, d2] }
  | _ => none }
def MatrixDeterminantsWrongFalsely : Prop := matrixDeterminantsRow.holds Try.pinned (OpenSpec.ofChange matrixDeterminantsWrong)

/-- 'quadformlaw03.MatrixExpansion': WHATEVER THE INPUT: true; the input reads as it did. -/
def matrixExpansionSpec : ChangeSpec := { name := "matrixExpansion", fn := fun _ => fun
  | [d] => { results := [.lit (.bool true)], args := [d] }
  | _ => none }
def matrixExpansionRow : OpenClaim := { program := "ytencodepmbhpiaa", sum := "81b80739cdfc36fd31c786edadbb8def5656276342a1670a46ac18675d5fe6ab", func := "quadform/quadformlaw03.MatrixExpansion", spec := "matrixExpansion", unfollowed := true, recurses := true, apart := false }
def MatrixExpansionSaid : Prop := matrixExpansionRow.holds Try.pinned (OpenSpec.ofChange matrixExpansionSpec)

/-- ITS FALSE NEIGHBOUR: 'it returns false'. Refute it at one input. -/
def matrixExpansionWrong : ChangeSpec := { name := "matrixExpansion", fn := fun _ => fun
  | [d] => { results := [.lit (.bool false)], args := [d] }
  | _ => none }
def MatrixExpansionWrongFalsely : Prop := matrixExpansionRow.holds Try.pinned (OpenSpec.ofChange matrixExpansionWrong)

/-- 'quadformlaw03.MatrixMinors': WHATEVER THE INPUT: true; the input reads as it did. -/
def matrixMinorsSpec : ChangeSpec := { name := "matrixMinors", fn := fun _ => fun
  | [d1, d2, d3, d4] => { results := [.lit (.bool true)], args := [d1, d2, d3, d4] }
  | _ => none }
def matrixMinorsRow : OpenClaim := { program := "ytencodepmbhpiaa", sum := "81b80739cdfc36fd31c786edadbb8def5656276342a1670a46ac18675d5fe6ab", func := "quadform/quadformlaw03.MatrixMinors", spec := "matrixMinors", unfollowed := true, recurses := true, apart := false }
def MatrixMinorsSaid : Prop := matrixMinorsRow.holds Try.pinned (OpenSpec.ofChange matrixMinorsSpec)

/-- ITS FALSE NEIGHBOUR: 'it returns false'. Refute it at one input. -/
def matrixMinorsWrong : ChangeSpec := { name := "matrixMinors", fn := fun _ => fun
  | [d1, d2, d3, d4] => { results := [.lit (.bool false)], args := [d1, d2, d3, d4] }
  | _ => none }
def MatrixMinorsWrongFalsely : Prop := matrixMinorsRow.holds Try.pinned (OpenSpec.ofChange matrixMinorsWrong)

/-- 'quadformlaw03.MatrixAdjugates': WHATEVER THE INPUT: true; the input reads as it did. -/
def matrixAdjugatesSpec : ChangeSpec := { name := "matrixAdjugates", fn := fun _ => fun
  | [d] => { results := [.lit (.bool true)], args := [d] }
  | _ => none }
def matrixAdjugatesRow : OpenClaim := { program := "ytencodepmbhpiaa", sum := "81b80739cdfc36fd31c786edadbb8def5656276342a1670a46ac18675d5fe6ab", func := "quadform/quadformlaw03.MatrixAdjugates", spec := "matrixAdjugates", unfollowed := true, recurses := true, apart := false }
def MatrixAdjugatesSaid : Prop := matrixAdjugatesRow.holds Try.pinned (OpenSpec.ofChange matrixAdjugatesSpec)

/-- ITS FALSE NEIGHBOUR: 'it returns false'. Refute it at one input. -/
def matrixAdjugatesWrong : ChangeSpec := { name := "matrixAdjugates", fn := fun _ => fun
  | [d] => { results := [.lit (.bool false)], args := [d] }
  | _ => none }
def MatrixAdjugatesWrongFalsely : Prop := matrixAdjugatesRow.holds Try.pinned (OpenSpec.ofChange matrixAdjugatesWrong)

/-- 'quadformlaw03.MatrixCramer': WHATEVER THE INPUT: true; the input reads as it did. -/
def matrixCramerSpec : ChangeSpec := { name := "matrixCramer", fn := fun _ => fun
  | [d] => { results := [.lit (.bool true)], args := [d] }
  | _ => none }
def matrixCramerRow : OpenClaim := { program := "ytencodepmbhpiaa", sum := "81b80739cdfc36fd31c786edadbb8def5656276342a1670a46ac18675d5fe6ab", func := "quadform/quadformlaw03.MatrixCramer", spec := "matrixCramer", unfollowed := true, recurses := true, apart := false }
def MatrixCramerSaid : Prop := matrixCramerRow.holds Try.pinned (OpenSpec.ofChange matrixCramerSpec)

/-- ITS FALSE NEIGHBOUR: 'it returns false'. Refute it at one input. -/
def matrixCramerWrong : ChangeSpec := { name := "matrixCramer", fn := fun _ => fun
  | [d] => { results := [.lit (.bool false)], args := [d] }
  | _ => none }
def MatrixCramerWrongFalsely : Prop := matrixCramerRow.holds Try.pinned (OpenSpec.ofChange matrixCramerWrong)

/-- 'quadformlaw03.MatrixInverts': WHATEVER THE INPUT: true; the input reads as it did. -/
def matrixInvertsSpec : ChangeSpec := { name := "matrixInverts", fn := fun _ => fun
  | [d1, d2, d3] => { results := [.lit (.bool true)], args := [d1, d2, d3] }
  | _ => none }
def matrixInvertsRow : OpenClaim := { program := "ytencodepmbhpiaa", sum := "81b80739cdfc36fd31c786edadbb8def5656276342a1670a46ac18675d5fe6ab", func := "quadform/quadformlaw03.MatrixInverts", spec := "matrixInverts", unfollowed := true, recurses := true, apart := false }
def MatrixInvertsSaid : Prop := matrixInvertsRow.holds Try.pinned (OpenSpec.ofChange matrixInvertsSpec)

/-- ITS FALSE NEIGHBOUR: 'it returns false'. Refute it at one input. -/
def matrixInvertsWrong : ChangeSpec := { name := "matrixInverts", fn := fun _ => fun
  | [d1, d2, d3] => { results := [.lit (.bool false)], args := [d1, d2, d3] }
  | _ => none }
def MatrixInvertsWrongFalsely : Prop := matrixInvertsRow.holds Try.pinned (OpenSpec.ofChange matrixInvertsWrong)

/-- 'quadformlaw03.MatrixShapes': WHATEVER THE INPUT: true; the input reads as it did. -/
def matrixShapesSpec : ChangeSpec := { name := "matrixShapes", fn := fun _ => fun
  | [d] => { results := [.lit (.bool true)], args := [d] }
  | _ => none }
def matrixShapesRow : OpenClaim := { program := "ytencodepmbhpiaa", sum := "81b80739cdfc36fd31c786edadbb8def5656276342a1670a46ac18675d5fe6ab", func := "quadform/quadformlaw03.MatrixShapes", spec := "matrixShapes", unfollowed := true, recurses := true, apart := false }
def MatrixShapesSaid : Prop := matrixShapesRow.holds Try.pinned (OpenSpec.ofChange matrixShapesSpec)

/-- ITS FALSE NEIGHBOUR: 'it returns false'. Refute it at one input. -/
def matrixShapesWrong : ChangeSpec := { name := "matrixShapes", fn := fun _ => fun
  | [d] => { results := [.lit (.bool false)], args := [d] }
  | _ => none }
def MatrixShapesWrongFalsely : Prop := matrixShapesRow.holds Try.pinned (OpenSpec.ofChange matrixShapesWrong)

/-- 'quadformlaw03.MatrixTransposes': WHATEVER THE INPUT: true; the input reads as it did. -/
def matrixTransposesSpec : ChangeSpec := { name := "matrixTransposes", fn := fun _ => fun
  | [d1, d2] => { results := [.lit (.bool true)], args := [d1, d2] }
  | _ => none }
def matrixTransposesRow : OpenClaim := { program := "ytencodepmbhpiaa", sum := "81b80739cdfc36fd31c786edadbb8def5656276342a1670a46ac18675d5fe6ab", func := "quadform/quadformlaw03.MatrixTransposes", spec := "matrixTransposes", unfollowed := true, recurses := true, apart := false }
def MatrixTransposesSaid : Prop := matrixTransposesRow.holds Try.pinned (OpenSpec.ofChange matrixTransposesSpec)

/-- ITS FALSE NEIGHBOUR: 'it returns false'. Refute it at one input. -/
def matrixTransposesWrong : ChangeSpec := { name := "matrixTransposes", fn := fun _ => fun
  | [d1, d2] => { results := [.lit (.bool false)], args := [d1, d2] }
  | _ => none }
def MatrixTransposesWrongFalsely : Prop := matrixTransposesRow.holds Try.pinned (OpenSpec.ofChange matrixTransposesWrong)

/-- 'quadformlaw03.MatrixAdds': WHATEVER THE INPUT: true; the input reads as it did. -/
def matrixAddsSpec : ChangeSpec := { name := "matrixAdds", fn := fun _ => fun
  | [d1, d2, d3, d4] => { results := [.lit (.bool true)], args := [d1, d2, d3, d4] }
  | _ => none }
def matrixAddsRow : OpenClaim := { program := "ytencodepmbhpiaa", sum := "81b80739cdfc36fd31c786edadbb8def5656276342a1670a46ac18675d5fe6ab", func := "quadform/quadformlaw03.MatrixAdds", spec := "matrixAdds", unfollowed := true, recurses := true, apart := false }
def MatrixAddsSaid : Prop := matrixAddsRow.holds Try.pinned (OpenSpec.ofChange matrixAddsSpec)

/-- ITS FALSE NEIGHBOUR: 'it returns false'. Refute it at one input. -/
def matrixAddsWrong : ChangeSpec := { name := "matrixAdds", fn := fun _ => fun
  | [d1, d2, d3, d4] => { results := [.lit (.bool false)], args := [d1, d2, d3, d4] }
  | _ => none }
def MatrixAddsWrongFalsely : Prop := matrixAddsRow.holds Try.pinned (OpenSpec.ofChange matrixAddsWrong)

/-- 'quadformlaw03.MatrixApplies': WHATEVER THE INPUT: true; the input reads as it did. -/
def matrixAppliesSpec : ChangeSpec := { name := "matrixApplies", fn := fun _ => fun
  | [d1, d2, d3, d4] => { results := [.lit (.bool true)], args := [d1, d2, d3, d4] }
  | _ => none }
def matrixAppliesRow : OpenClaim := { program := "ytencodepmbhpiaa", sum := "81b80739cdfc36fd31c786edadbb8def5656276342a1670a46ac18675d5fe6ab", func := "quadform/quadformlaw03.MatrixApplies", spec := "matrixApplies", unfollowed := true, recurses := true, apart := false }
def MatrixAppliesSaid : Prop := matrixAppliesRow.holds Try.pinned (OpenSpec.ofChange matrixAppliesSpec)

/-- ITS FALSE NEIGHBOUR: 'it returns false'. Refute it at one input. -/
def matrixAppliesWrong : ChangeSpec := { name := "matrixApplies", fn := fun _ => fun
  | [d1, d2, d3, d4] => { results := [.lit (.bool false)], args := [d1, d2, d3, d4] }
  | _ => none }
def MatrixAppliesWrongFalsely : Prop := matrixAppliesRow.holds Try.pinned (OpenSpec.ofChange matrixAppliesWrong)

/-- 'quadformlaw03.MatrixMultiplies': WHATEVER THE INPUT: true; the input reads as it did. -/
def matrixMultipliesSpec : ChangeSpec := { name := "matrixMultiplies", fn := fun _ => fun
  | [d1, d2, d3, d4] => { results := [.lit (.bool true)], args := [d1, d2, d3, d4] }
  | _ => none }
def matrixMultipliesRow : OpenClaim := { program := "ytencodepmbhpiaa", sum := "81b80739cdfc36fd31c786edadbb8def5656276342a1670a46ac18675d5fe6ab", func := "quadform/quadformlaw03.MatrixMultiplies", spec := "matrixMultiplies", unfollowed := true, recurses := true, apart := false }
def MatrixMultipliesSaid : Prop := matrixMultipliesRow.holds Try.pinned (OpenSpec.ofChange matrixMultipliesSpec)

/-- ITS FALSE NEIGHBOUR: 'it returns false'. Refute it at one input. -/
def matrixMultipliesWrong : ChangeSpec := { name := "matrixMultiplies", fn := fun _ => fun
  | [d1, d2, d3, d4] => { results := [.lit (.bool false)], args := [d1, d2, d3, d4] }
  | _ => none }
def MatrixMultipliesWrongFalsely : Prop := matrixMultipliesRow.holds Try.pinned (OpenSpec.ofChange matrixMultipliesWrong)

/-- 'quadformlaw03.MatrixFits': WHATEVER THE INPUT: true; the input reads as it did. -/
def matrixFitsSpec : ChangeSpec := { name := "matrixFits", fn := fun _ => fun
  | [d] => { results := [.lit (.bool true)], args := [d] }
  | _ => none }
def matrixFitsRow : OpenClaim := { program := "ytencodepmbhpiaa", sum := "81b80739cdfc36fd31c786edadbb8def5656276342a1670a46ac18675d5fe6ab", func := "quadform/quadformlaw03.MatrixFits", spec := "matrixFits", unfollowed := true, recurses := true, apart := false }
def MatrixFitsSaid : Prop := matrixFitsRow.holds Try.pinned (OpenSpec.ofChange matrixFitsSpec)

/-- ITS FALSE NEIGHBOUR: 'it returns false'. Refute it at one input. -/
def matrixFitsWrong : ChangeSpec := { name := "matrixFits", fn := fun _ => fun
  | [d] => { results := [.lit (.bool false)], args := [d] }
  | _ => none }
def MatrixFitsWrongFalsely : Prop := matrixFitsRow.holds Try.pinned (OpenSpec.ofChange matrixFitsWrong)

/-- 'quadformlaw03.MatrixMultiplicative': WHATEVER THE INPUT: true; the input reads as it did. -/
def matrixMultiplicativeSpec : ChangeSpec := { name := "matrixMultiplicative", fn := fun _ => fun
  | [d1, d2, d3] => { results := [.lit (.bool true)], args := [d1, d2, d3] }
  | _ => none }
def matrixMultiplicativeRow : OpenClaim := { program := "ytencodepmbhpiaa", sum := "81b80739cdfc36fd31c786edadbb8def5656276342a1670a46ac18675d5fe6ab", func := "quadform/quadformlaw03.MatrixMultiplicative", spec := "matrixMultiplicative", unfollowed := true, recurses := true, apart := false }
def MatrixMultiplicativeSaid : Prop := matrixMultiplicativeRow.holds Try.pinned (OpenSpec.ofChange matrixMultiplicativeSpec)

/-- ITS FALSE NEIGHBOUR: 'it returns false'. Refute it at one input. -/
def matrixMultiplicativeWrong : ChangeSpec := { name := "matrixMultiplicative", fn := fun _ => fun
  | [d1, d2, d3] => { results := [.lit (.bool false)], args := [d1, d2, d3] }
  | _ => none }
def MatrixMultiplicativeWrongFalsely : Prop := matrixMultiplicativeRow.holds Try.pinned (OpenSpec.ofChange matrixMultiplicativeWrong)

/-- 'quadformlaw03.MatrixConverts': WHATEVER THE INPUT: true; the input reads as it did. -/
def matrixConvertsSpec : ChangeSpec := { name := "matrixConverts", fn := fun _ => fun
  | [d] => { results := [.lit (.bool true)], args := [d] }
  | _ => none }
def matrixConvertsRow : OpenClaim := { program := "ytencodepmbhpiaa", sum := "81b80739cdfc36fd31c786edadbb8def5656276342a1670a46ac18675d5fe6ab", func := "quadform/quadformlaw03.MatrixConverts", spec := "matrixConverts", unfollowed := true, recurses := true, apart := false }
def MatrixConvertsSaid : Prop := matrixConvertsRow.holds Try.pinned (OpenSpec.ofChange matrixConvertsSpec)

/-- ITS FALSE NEIGHBOUR: 'it returns false'. Refute it at one input. -/
def matrixConvertsWrong : ChangeSpec := { name := "matrixConverts", fn := fun _ => fun
  | [d] => { results := [.lit (.bool false)], args := [d] }
  | _ => none }
def MatrixConvertsWrongFalsely : Prop := matrixConvertsRow.holds Try.pinned (OpenSpec.ofChange matrixConvertsWrong)

/-- 'quadformlaw03.MatrixEqual': WHATEVER THE INPUT: true; the input reads as it did. -/
def matrixEqualSpec : ChangeSpec := { name := "matrixEqual", fn := fun _ => fun
  | [d1, d2, d3, d4, d5] => { results := [.lit (.bool true)], args := [d1, d2, d3, d4, d5] }
  | _ => none }
def matrixEqualRow : OpenClaim := { program := "ytencodepmbhpiaa", sum := "81b80739cdfc36fd31c786edadbb8def5656276342a1670a46ac18675d5fe6ab", func := "quadform/quadformlaw03.MatrixEqual", spec := "matrixEqual", unfollowed := true, recurses := true, apart := false }
def MatrixEqualSaid : Prop := matrixEqualRow.holds Try.pinned (OpenSpec.ofChange matrixEqualSpec)

/-- ITS FALSE NEIGHBOUR: 'it returns false'. Refute it at one input. -/
def matrixEqualWrong : ChangeSpec := { name := "matrixEqual", fn := fun _ => fun
  | [d1, d2, d3, d4, d5] => { results := [.lit (.bool false)], args := [d1, d2, d3, d4, d5] }
  | _ => none }
def MatrixEqualWrongFalsely : Prop := matrixEqualRow.holds Try.pinned (OpenSpec.ofChange matrixEqualWrong)

/-- 'quadformlaw03.MatrixSizes': WHATEVER THE INPUT: true; the input reads as it did. -/
def matrixSizesSpec : ChangeSpec := { name := "matrixSizes", fn := fun _ => fun
  | [d1, d2, d3] => { results := [.lit (.bool true)], args := [d1, d2, d3] }
  | _ => none }
def matrixSizesRow : OpenClaim := { program := "ytencodepmbhpiaa", sum := "81b80739cdfc36fd31c786edadbb8def5656276342a1670a46ac18675d5fe6ab", func := "quadform/quadformlaw03.MatrixSizes", spec := "matrixSizes", unfollowed := true, recurses := true, apart := false }
def MatrixSizesSaid : Prop := matrixSizesRow.holds Try.pinned (OpenSpec.ofChange matrixSizesSpec)

/-- ITS FALSE NEIGHBOUR: 'it returns false'. Refute it at one input. -/
def matrixSizesWrong : ChangeSpec := { name := "matrixSizes", fn := fun _ => fun
  | [d1, d2, d3] => { results := [.lit (.bool false)], args := [d1, d2, d3] }
  | _ => none }
def MatrixSizesWrongFalsely : Prop := matrixSizesRow.holds Try.pinned (OpenSpec.ofChange matrixSizesWrong)

/- THE SECOND FORM. 'bulk': how many values and letters a reading holds, each counted each time it is reached (what is shared counts as often as it is met; a slice's spare places count too). A statement '..UptoSaid' is the law's where the arguments, and the package variables that the reading takes, are together of bulk at most 1048576: NARROWER than '..Said'. Prove '..Said' where nothing that the law and all that it calls make is longer than what came in: it says more and counts as full. Else prove '..UptoSaid'. A law counts once. -/
mutual
def uptoBulk {H : Type} : DataW H → Nat
  | .lit (.string bytes) => bytes.length + 1
  | .lit _ => 1
  | .nil => 1
  | .ptr d => uptoBulk d + 1
  | .slice elems spare => uptoBulkAll elems + uptoBulkAll spare + 1
  | .agg parts => uptoBulkAll parts + 1
  | .iface _ d => uptoBulk d + 1
  | .map entries => uptoBulkEntries entries + 1
  | .held _ => 1
def uptoBulkAll {H : Type} : List (DataW H) → Nat
  | [] => 0
  | d :: r => uptoBulk d + uptoBulkAll r
def uptoBulkEntries {H : Type} : List (Lit × DataW H) → Nat
  | [] => 0
  | x :: r => uptoBulkEntry x + uptoBulkEntries r
def uptoBulkEntry {H : Type} : Lit × DataW H → Nat
  | (.string bytes, d) => bytes.length + uptoBulk d + 1
  | (_, d) => uptoBulk d + 1
 end
def uptoSmall : (H : Type) → List (DataW H) → Bool := fun _ ds => decide (uptoBulkAll ds ≤ 1048576)
def OpenSpec.upto (s : _root_.Go.ChangeSpec) : _root_.Go.OpenSpec := { _root_.Go.OpenSpec.ofChange s with cond := some uptoSmall }

/-- 'quadformlaw03.MatrixIdentity', WHERE WHAT IT READS IS OF BULK AT MOST 1048576: true; the input reads as it did. -/
def matrixIdentityUptoRow : OpenClaim := { program := "ytencodepmbhpiaa", sum := "81b80739cdfc36fd31c786edadbb8def5656276342a1670a46ac18675d5fe6ab", func := "quadform/quadformlaw03.MatrixIdentity", spec := "matrixIdentity", unfollowed := true, recurses := true, apart := false, narrowed := true }
def MatrixIdentityUptoSaid : Prop := matrixIdentityUptoRow.holds Try.pinned (OpenSpec.upto matrixIdentitySpec)

/-- 'quadformlaw03.MatrixDeterminants', WHERE WHAT IT READS IS OF BULK AT MOST 1048576: true; the input reads as it did. -/
def matrixDeterminantsUptoRow : OpenClaim := { program := "ytencodepmbhpiaa", sum := "81b80739cdfc36fd31c786edadbb8def5656276342a1670a46ac18675d5fe6ab", func := "quadform/quadformlaw03.MatrixDeterminants", spec := "matrixDeterminants", unfollowed := true, recurses := true, apart := false, narrowed := true }
def MatrixDeterminantsUptoSaid : Prop := matrixDeterminantsUptoRow.holds Try.pinned (OpenSpec.upto matrixDeterminantsSpec)

/-- 'quadformlaw03.MatrixExpansion', WHERE WHAT IT READS IS OF BULK AT MOST 1048576: true; the input reads as it did. -/
def matrixExpansionUptoRow : OpenClaim := { program := "ytencodepmbhpiaa", sum := "81b80739cdfc36fd31c786edadbb8def5656276342a1670a46ac18675d5fe6ab", func := "quadform/quadformlaw03.MatrixExpansion", spec := "matrixExpansion", unfollowed := true, recurses := true, apart := false, narrowed := true }
def MatrixExpansionUptoSaid : Prop := matrixExpansionUptoRow.holds Try.pinned (OpenSpec.upto matrixExpansionSpec)

/-- 'quadformlaw03.MatrixMinors', WHERE WHAT IT READS IS OF BULK AT MOST 1048576: true; the input reads as it did. -/
def matrixMinorsUptoRow : OpenClaim := { program := "ytencodepmbhpiaa", sum := "81b80739cdfc36fd31c786edadbb8def5656276342a1670a46ac18675d5fe6ab", func := "quadform/quadformlaw03.MatrixMinors", spec := "matrixMinors", unfollowed := true, recurses := true, apart := false, narrowed := true }
def MatrixMinorsUptoSaid : Prop := matrixMinorsUptoRow.holds Try.pinned (OpenSpec.upto matrixMinorsSpec)

/-- 'quadformlaw03.MatrixAdjugates', WHERE WHAT IT READS IS OF BULK AT MOST 1048576: true; the input reads as it did. -/
def matrixAdjugatesUptoRow : OpenClaim := { program := "ytencodepmbhpiaa", sum := "81b80739cdfc36fd31c786edadbb8def5656276342a1670a46ac18675d5fe6ab", func := "quadform/quadformlaw03.MatrixAdjugates", spec := "matrixAdjugates", unfollowed := true, recurses := true, apart := false, narrowed := true }
def MatrixAdjugatesUptoSaid : Prop := matrixAdjugatesUptoRow.holds Try.pinned (OpenSpec.upto matrixAdjugatesSpec)

/-- 'quadformlaw03.MatrixCramer', WHERE WHAT IT READS IS OF BULK AT MOST 1048576: true; the input reads as it did. -/
def matrixCramerUptoRow : OpenClaim := { program := "ytencodepmbhpiaa", sum := "81b80739cdfc36fd31c786edadbb8def5656276342a1670a46ac18675d5fe6ab", func := "quadform/quadformlaw03.MatrixCramer", spec := "matrixCramer", unfollowed := true, recurses := true, apart := false, narrowed := true }
def MatrixCramerUptoSaid : Prop := matrixCramerUptoRow.holds Try.pinned (OpenSpec.upto matrixCramerSpec)

/-- 'quadformlaw03.MatrixInverts', WHERE WHAT IT READS IS OF BULK AT MOST 1048576: true; the input reads as it did. -/
def matrixInvertsUptoRow : OpenClaim := { program := "ytencodepmbhpiaa", sum := "81b80739cdfc36fd31c786edadbb8def5656276342a1670a46ac18675d5fe6ab", func := "quadform/quadformlaw03.MatrixInverts", spec := "matrixInverts", unfollowed := true, recurses := true, apart := false, narrowed := true }
def MatrixInvertsUptoSaid : Prop := matrixInvertsUptoRow.holds Try.pinned (OpenSpec.upto matrixInvertsSpec)

/-- 'quadformlaw03.MatrixShapes', WHERE WHAT IT READS IS OF BULK AT MOST 1048576: true; the input reads as it did. -/
def matrixShapesUptoRow : OpenClaim := { program := "ytencodepmbhpiaa", sum := "81b80739cdfc36fd31c786edadbb8def5656276342a1670a46ac18675d5fe6ab", func := "quadform/quadformlaw03.MatrixShapes", spec := "matrixShapes", unfollowed := true, recurses := true, apart := false, narrowed := true }
def MatrixShapesUptoSaid : Prop := matrixShapesUptoRow.holds Try.pinned (OpenSpec.upto matrixShapesSpec)

/-- 'quadformlaw03.MatrixTransposes', WHERE WHAT IT READS IS OF BULK AT MOST 1048576: true; the input reads as it did. -/
def matrixTransposesUptoRow : OpenClaim := { program := "ytencodepmbhpiaa", sum := "81b80739cdfc36fd31c786edadbb8def5656276342a1670a46ac18675d5fe6ab", func := "quadform/quadformlaw03.MatrixTransposes", spec := "matrixTransposes", unfollowed := true, recurses := true, apart := false, narrowed := true }
def MatrixTransposesUptoSaid : Prop := matrixTransposesUptoRow.holds Try.pinned (OpenSpec.upto matrixTransposesSpec)

/-- 'quadformlaw03.MatrixAdds', WHERE WHAT IT READS IS OF BULK AT MOST 1048576: true; the input reads as it did. -/
def matrixAddsUptoRow : OpenClaim := { program := "ytencodepmbhpiaa", sum := "81b80739cdfc36fd31c786edadbb8def5656276342a1670a46ac18675d5fe6ab", func := "quadform/quadformlaw03.MatrixAdds", spec := "matrixAdds", unfollowed := true, recurses := true, apart := false, narrowed := true }
def MatrixAddsUptoSaid : Prop := matrixAddsUptoRow.holds Try.pinned (OpenSpec.upto matrixAddsSpec)

/-- 'quadformlaw03.MatrixApplies', WHERE WHAT IT READS IS OF BULK AT MOST 1048576: true; the input reads as it did. -/
def matrixAppliesUptoRow : OpenClaim := { program := "ytencodepmbhpiaa", sum := "81b80739cdfc36fd31c786edadbb8def5656276342a1670a46ac18675d5fe6ab", func := "quadform/quadformlaw03.MatrixApplies", spec := "matrixApplies", unfollowed := true, recurses := true, apart := false, narrowed := true }
def MatrixAppliesUptoSaid : Prop := matrixAppliesUptoRow.holds Try.pinned (OpenSpec.upto matrixAppliesSpec)

/-- 'quadformlaw03.MatrixMultiplies', WHERE WHAT IT READS IS OF BULK AT MOST 1048576: true; the input reads as it did. -/
def matrixMultipliesUptoRow : OpenClaim := { program := "ytencodepmbhpiaa", sum := "81b80739cdfc36fd31c786edadbb8def5656276342a1670a46ac18675d5fe6ab", func := "quadform/quadformlaw03.MatrixMultiplies", spec := "matrixMultiplies", unfollowed := true, recurses := true, apart := false, narrowed := true }
def MatrixMultipliesUptoSaid : Prop := matrixMultipliesUptoRow.holds Try.pinned (OpenSpec.upto matrixMultipliesSpec)

/-- 'quadformlaw03.MatrixFits', WHERE WHAT IT READS IS OF BULK AT MOST 1048576: true; the input reads as it did. -/
def matrixFitsUptoRow : OpenClaim := { program := "ytencodepmbhpiaa", sum := "81b80739cdfc36fd31c786edadbb8def5656276342a1670a46ac18675d5fe6ab", func := "quadform/quadformlaw03.MatrixFits", spec := "matrixFits", unfollowed := true, recurses := true, apart := false, narrowed := true }
def MatrixFitsUptoSaid : Prop := matrixFitsUptoRow.holds Try.pinned (OpenSpec.upto matrixFitsSpec)

/-- 'quadformlaw03.MatrixMultiplicative', WHERE WHAT IT READS IS OF BULK AT MOST 1048576: true; the input reads as it did. -/
def matrixMultiplicativeUptoRow : OpenClaim := { program := "ytencodepmbhpiaa", sum := "81b80739cdfc36fd31c786edadbb8def5656276342a1670a46ac18675d5fe6ab", func := "quadform/quadformlaw03.MatrixMultiplicative", spec := "matrixMultiplicative", unfollowed := true, recurses := true, apart := false, narrowed := true }
def MatrixMultiplicativeUptoSaid : Prop := matrixMultiplicativeUptoRow.holds Try.pinned (OpenSpec.upto matrixMultiplicativeSpec)

/-- 'quadformlaw03.MatrixConverts', WHERE WHAT IT READS IS OF BULK AT MOST 1048576: true; the input reads as it did. -/
def matrixConvertsUptoRow : OpenClaim := { program := "ytencodepmbhpiaa", sum := "81b80739cdfc36fd31c786edadbb8def5656276342a1670a46ac18675d5fe6ab", func := "quadform/quadformlaw03.MatrixConverts", spec := "matrixConverts", unfollowed := true, recurses := true, apart := false, narrowed := true }
def MatrixConvertsUptoSaid : Prop := matrixConvertsUptoRow.holds Try.pinned (OpenSpec.upto matrixConvertsSpec)

/-- 'quadformlaw03.MatrixEqual', WHERE WHAT IT READS IS OF BULK AT MOST 1048576: true; the input reads as it did. -/
def matrixEqualUptoRow : OpenClaim := { program := "ytencodepmbhpiaa", sum := "81b80739cdfc36fd31c786edadbb8def5656276342a1670a46ac18675d5fe6ab", func := "quadform/quadformlaw03.MatrixEqual", spec := "matrixEqual", unfollowed := true, recurses := true, apart := false, narrowed := true }
def MatrixEqualUptoSaid : Prop := matrixEqualUptoRow.holds Try.pinned (OpenSpec.upto matrixEqualSpec)

/-- 'quadformlaw03.MatrixSizes', WHERE WHAT IT READS IS OF BULK AT MOST 1048576: true; the input reads as it did. -/
def matrixSizesUptoRow : OpenClaim := { program := "ytencodepmbhpiaa", sum := "81b80739cdfc36fd31c786edadbb8def5656276342a1670a46ac18675d5fe6ab", func := "quadform/quadformlaw03.MatrixSizes", spec := "matrixSizes", unfollowed := true, recurses := true, apart := false, narrowed := true }
def MatrixSizesUptoSaid : Prop := matrixSizesUptoRow.holds Try.pinned (OpenSpec.upto matrixSizesSpec)

end Rows
end Go.Proofs.Ytencodepmbhpiaa
