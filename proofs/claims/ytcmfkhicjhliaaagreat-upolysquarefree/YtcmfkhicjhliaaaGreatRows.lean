/-
  No cell of these rows narrows 'for every input' (looked for: loops, veiled, ifaces, maps, wideKeys, modest, calm, conditions, laid).
  DERIVED. THE GIVEN ROWS OF THIS SEAT. 8 by the template 'for every input the law returns true; each argument reads behind the call as it read before'; 0 by the template 'total and deterministic' (their statements: YtcmfkhicjhliaaaGreatTotals.lean).
  GIVEN WITH THE SEED: the statements are not yours to turn. If you find one false, say at which input.
  Laid BY PROGRAM, IN A SANDBOX (cutbox-rows.mjs): the forced cells as the released guide's own fill.sh prints them over the translation d68c0d7b663aca4c… (all of the seat's roots in one cut). By AI agents, Wed Nov 11 2026. No macro, syntax, notation, axiom, sorry.
-/
import Derived.Test.YtcmfkhicjhliaaaGreatChecked
import GoSem.Claim
import GoSem.ClaimJoined
import GoSem.ClaimMapViews
import Derived.JoinedTies
import Derived.KernelRfl
namespace Go.Proofs.YtcmfkhicjhliaaaGreat
/- THE CELL 'sum', in the pinned program and in every row, IS THE sha256 OF THE DUMP (.gsa) THAT YtcmfkhicjhliaaaGreatProg.lean LOADS. Nothing in Lean hashes anything: it is a label: what it is worth is what the hold of that sum in a sandbox is worth. -/
noncomputable def Tryz.pinned : Pinned := { name := "ytcmfkhicjhliaaagreat", sum := "d68c0d7b663aca4cfe9722a0969d3090b7e236fbf9310e095982bb5470682a0d", checked := Tryz.checked }
namespace Rows
def none {H : Type} : Left H := { results := [], args := [] }

/-- 'quadraturelaw10.UpolyRing': WHATEVER THE INPUT: true; the input reads as it did. -/
def upolyRingSpec : ChangeSpec := { name := "upolyRing", fn := fun _ => fun
  | [d1, d2, d3] => { results := [.lit (.bool true)], args := [d1, d2, d3] }
  | _ => none }
def upolyRingRow : OpenClaim := { program := "ytcmfkhicjhliaaagreat", sum := "d68c0d7b663aca4cfe9722a0969d3090b7e236fbf9310e095982bb5470682a0d", func := "quadrature/quadraturelaw10.UpolyRing", spec := "upolyRing", unfollowed := true, recurses := true, plainKeys := false, apart := false }
def UpolyRingSaid : Prop := upolyRingRow.holds Tryz.pinned (OpenSpec.ofChange upolyRingSpec)

/-- ITS FALSE NEIGHBOUR: 'it returns false'. Refute it at one input. -/
def upolyRingWrong : ChangeSpec := { name := "upolyRing", fn := fun _ => fun
  | [d1, d2, d3] => { results := [.lit (.bool false)], args := [d1, d2, d3] }
  | _ => none }
def UpolyRingWrongFalsely : Prop := upolyRingRow.holds Tryz.pinned (OpenSpec.ofChange upolyRingWrong)

/-- 'quadraturelaw10.UpolyDivides': WHATEVER THE INPUT: true; the input reads as it did. -/
def upolyDividesSpec : ChangeSpec := { name := "upolyDivides", fn := fun _ => fun
  | [d1, d2] => { results := [.lit (.bool true)], args := [d1, d2] }
  | _ => none }
def upolyDividesRow : OpenClaim := { program := "ytcmfkhicjhliaaagreat", sum := "d68c0d7b663aca4cfe9722a0969d3090b7e236fbf9310e095982bb5470682a0d", func := "quadrature/quadraturelaw10.UpolyDivides", spec := "upolyDivides", unfollowed := true, recurses := true, plainKeys := false, apart := false }
def UpolyDividesSaid : Prop := upolyDividesRow.holds Tryz.pinned (OpenSpec.ofChange upolyDividesSpec)

/-- ITS FALSE NEIGHBOUR: 'it returns false'. Refute it at one input. -/
def upolyDividesWrong : ChangeSpec := { name := "upolyDivides", fn := fun _ => fun
  | [d1, d2] => { results := [.lit (.bool false)], args := [d1, d2] }
  | _ => none }
def UpolyDividesWrongFalsely : Prop := upolyDividesRow.holds Tryz.pinned (OpenSpec.ofChange upolyDividesWrong)

/-- 'quadraturelaw10.UpolyGcd': WHATEVER THE INPUT: true; the input reads as it did. -/
def upolyGcdSpec : ChangeSpec := { name := "upolyGcd", fn := fun _ => fun
  | [d1, d2, d3] => { results := [.lit (.bool true)], args := [d1, d2, d3] }
  | _ => none }
def upolyGcdRow : OpenClaim := { program := "ytcmfkhicjhliaaagreat", sum := "d68c0d7b663aca4cfe9722a0969d3090b7e236fbf9310e095982bb5470682a0d", func := "quadrature/quadraturelaw10.UpolyGcd", spec := "upolyGcd", unfollowed := true, recurses := true, plainKeys := false, apart := false }
def UpolyGcdSaid : Prop := upolyGcdRow.holds Tryz.pinned (OpenSpec.ofChange upolyGcdSpec)

/-- ITS FALSE NEIGHBOUR: 'it returns false'. Refute it at one input. -/
def upolyGcdWrong : ChangeSpec := { name := "upolyGcd", fn := fun _ => fun
  | [d1, d2, d3] => { results := [.lit (.bool false)], args := [d1, d2, d3] }
  | _ => none }
def UpolyGcdWrongFalsely : Prop := upolyGcdRow.holds Tryz.pinned (OpenSpec.ofChange upolyGcdWrong)

/-- 'quadraturelaw10.UpolySolves': WHATEVER THE INPUT: true; the input reads as it did. -/
def upolySolvesSpec : ChangeSpec := { name := "upolySolves", fn := fun _ => fun
  | [d1, d2, d3] => { results := [.lit (.bool true)], args := [d1, d2, d3] }
  | _ => none }
def upolySolvesRow : OpenClaim := { program := "ytcmfkhicjhliaaagreat", sum := "d68c0d7b663aca4cfe9722a0969d3090b7e236fbf9310e095982bb5470682a0d", func := "quadrature/quadraturelaw10.UpolySolves", spec := "upolySolves", unfollowed := true, recurses := true, plainKeys := false, apart := false }
def UpolySolvesSaid : Prop := upolySolvesRow.holds Tryz.pinned (OpenSpec.ofChange upolySolvesSpec)

/-- ITS FALSE NEIGHBOUR: 'it returns false'. Refute it at one input. -/
def upolySolvesWrong : ChangeSpec := { name := "upolySolves", fn := fun _ => fun
  | [d1, d2, d3] => { results := [.lit (.bool false)], args := [d1, d2, d3] }
  | _ => none }
def UpolySolvesWrongFalsely : Prop := upolySolvesRow.holds Tryz.pinned (OpenSpec.ofChange upolySolvesWrong)

/-- 'quadraturelaw10.UpolySquarefree': WHATEVER THE INPUT: true; the input reads as it did. -/
def upolySquarefreeSpec : ChangeSpec := { name := "upolySquarefree", fn := fun _ => fun
  | [d1, d2, d3] => { results := [.lit (.bool true)], args := [d1, d2, d3] }
  | _ => none }
def upolySquarefreeRow : OpenClaim := { program := "ytcmfkhicjhliaaagreat", sum := "d68c0d7b663aca4cfe9722a0969d3090b7e236fbf9310e095982bb5470682a0d", func := "quadrature/quadraturelaw10.UpolySquarefree", spec := "upolySquarefree", unfollowed := true, recurses := true, plainKeys := false, apart := false }
def UpolySquarefreeSaid : Prop := upolySquarefreeRow.holds Tryz.pinned (OpenSpec.ofChange upolySquarefreeSpec)

/-- ITS FALSE NEIGHBOUR: 'it returns false'. Refute it at one input. -/
def upolySquarefreeWrong : ChangeSpec := { name := "upolySquarefree", fn := fun _ => fun
  | [d1, d2, d3] => { results := [.lit (.bool false)], args := [d1, d2, d3] }
  | _ => none }
def UpolySquarefreeWrongFalsely : Prop := upolySquarefreeRow.holds Tryz.pinned (OpenSpec.ofChange upolySquarefreeWrong)

/-- 'quadraturelaw10.UpolyResultants': WHATEVER THE INPUT: true; the input reads as it did. -/
def upolyResultantsSpec : ChangeSpec := { name := "upolyResultants", fn := fun _ => fun
  | [d1, d2, d3] => { results := [.lit (.bool true)], args := [d1, d2, d3] }
  | _ => none }
def upolyResultantsRow : OpenClaim := { program := "ytcmfkhicjhliaaagreat", sum := "d68c0d7b663aca4cfe9722a0969d3090b7e236fbf9310e095982bb5470682a0d", func := "quadrature/quadraturelaw10.UpolyResultants", spec := "upolyResultants", unfollowed := true, recurses := true, plainKeys := false, apart := false }
def UpolyResultantsSaid : Prop := upolyResultantsRow.holds Tryz.pinned (OpenSpec.ofChange upolyResultantsSpec)

/-- ITS FALSE NEIGHBOUR: 'it returns false'. Refute it at one input. -/
def upolyResultantsWrong : ChangeSpec := { name := "upolyResultants", fn := fun _ => fun
  | [d1, d2, d3] => { results := [.lit (.bool false)], args := [d1, d2, d3] }
  | _ => none }
def UpolyResultantsWrongFalsely : Prop := upolyResultantsRow.holds Tryz.pinned (OpenSpec.ofChange upolyResultantsWrong)

/-- 'quadraturelaw10.UpolyConverts': WHATEVER THE INPUT: true; the input reads as it did. -/
def upolyConvertsSpec : ChangeSpec := { name := "upolyConverts", fn := fun _ => fun
  | [d1, d2, d3] => { results := [.lit (.bool true)], args := [d1, d2, d3] }
  | _ => none }
def upolyConvertsRow : OpenClaim := { program := "ytcmfkhicjhliaaagreat", sum := "d68c0d7b663aca4cfe9722a0969d3090b7e236fbf9310e095982bb5470682a0d", func := "quadrature/quadraturelaw10.UpolyConverts", spec := "upolyConverts", unfollowed := true, recurses := true, plainKeys := false, apart := false }
def UpolyConvertsSaid : Prop := upolyConvertsRow.holds Tryz.pinned (OpenSpec.ofChange upolyConvertsSpec)

/-- ITS FALSE NEIGHBOUR: 'it returns false'. Refute it at one input. -/
def upolyConvertsWrong : ChangeSpec := { name := "upolyConverts", fn := fun _ => fun
  | [d1, d2, d3] => { results := [.lit (.bool false)], args := [d1, d2, d3] }
  | _ => none }
def UpolyConvertsWrongFalsely : Prop := upolyConvertsRow.holds Tryz.pinned (OpenSpec.ofChange upolyConvertsWrong)

/-- 'quadraturelaw10.UpolyMatchesReference': WHATEVER THE INPUT: true; the input reads as it did. -/
def upolyMatchesReferenceSpec : ChangeSpec := { name := "upolyMatchesReference", fn := fun _ => fun
  | [d1, d2, d3] => { results := [.lit (.bool true)], args := [d1, d2, d3] }
  | _ => none }
def upolyMatchesReferenceRow : OpenClaim := { program := "ytcmfkhicjhliaaagreat", sum := "d68c0d7b663aca4cfe9722a0969d3090b7e236fbf9310e095982bb5470682a0d", func := "quadrature/quadraturelaw10.UpolyMatchesReference", spec := "upolyMatchesReference", unfollowed := true, recurses := true, plainKeys := false, apart := false }
def UpolyMatchesReferenceSaid : Prop := upolyMatchesReferenceRow.holds Tryz.pinned (OpenSpec.ofChange upolyMatchesReferenceSpec)

/-- ITS FALSE NEIGHBOUR: 'it returns false'. Refute it at one input. -/
def upolyMatchesReferenceWrong : ChangeSpec := { name := "upolyMatchesReference", fn := fun _ => fun
  | [d1, d2, d3] => { results := [.lit (.bool false)], args := [d1, d2, d3] }
  | _ => none }
def UpolyMatchesReferenceWrongFalsely : Prop := upolyMatchesReferenceRow.holds Tryz.pinned (OpenSpec.ofChange upolyMatchesReferenceWrong)

/- THE SECOND FORM. 'bulk': how many values and letters a reading holds, each counted each time it is reached (what is shared counts as often as it is met; a slice's spare places count too). A statement '..UptoSaid' is the law's where the arguments, and the package variables that the reading takes, are together of bulk at most 1048576: NARROWER than '..Said'. Prove '..Said' where nothing that the law and all that it calls make is longer than what came in: it says more and counts as full. Else prove '..UptoSaid'. A law counts once. -/
mutual
def uptoBulk {H : Type} : DataW H → Nat
  | .lit (.string bytes) => bytes.length + 1
  | .lit _ => 1
  | .nil => 1
  | .ptr d => uptoBulk d + 1
  | .slice elems spare => uptoBulkAll elems + uptoBulkAll spare + 1
  | .agg parts => uptoBulkAll parts + 1
  | .iface _ d => uptoBulk d + 1
  | .map entries => uptoBulkEntries entries + 1
  | .held _ => 1
def uptoBulkAll {H : Type} : List (DataW H) → Nat
  | [] => 0
  | d :: r => uptoBulk d + uptoBulkAll r
def uptoBulkEntries {H : Type} : List (Lit × DataW H) → Nat
  | [] => 0
  | x :: r => uptoBulkEntry x + uptoBulkEntries r
def uptoBulkEntry {H : Type} : Lit × DataW H → Nat
  | (.string bytes, d) => bytes.length + uptoBulk d + 1
  | (_, d) => uptoBulk d + 1
 end
def uptoSmall : (H : Type) → List (DataW H) → Bool := fun _ ds => decide (uptoBulkAll ds ≤ 1048576)
def OpenSpec.upto (s : _root_.Go.ChangeSpec) : _root_.Go.OpenSpec := { _root_.Go.OpenSpec.ofChange s with cond := some uptoSmall }

/-- 'quadraturelaw10.UpolyRing', WHERE WHAT IT READS IS OF BULK AT MOST 1048576: true; the input reads as it did. -/
def upolyRingUptoRow : OpenClaim := { program := "ytcmfkhicjhliaaagreat", sum := "d68c0d7b663aca4cfe9722a0969d3090b7e236fbf9310e095982bb5470682a0d", func := "quadrature/quadraturelaw10.UpolyRing", spec := "upolyRing", unfollowed := true, recurses := true, plainKeys := false, apart := false, narrowed := true }
def UpolyRingUptoSaid : Prop := upolyRingUptoRow.holds Tryz.pinned (OpenSpec.upto upolyRingSpec)

/-- 'quadraturelaw10.UpolyDivides', WHERE WHAT IT READS IS OF BULK AT MOST 1048576: true; the input reads as it did. -/
def upolyDividesUptoRow : OpenClaim := { program := "ytcmfkhicjhliaaagreat", sum := "d68c0d7b663aca4cfe9722a0969d3090b7e236fbf9310e095982bb5470682a0d", func := "quadrature/quadraturelaw10.UpolyDivides", spec := "upolyDivides", unfollowed := true, recurses := true, plainKeys := false, apart := false, narrowed := true }
def UpolyDividesUptoSaid : Prop := upolyDividesUptoRow.holds Tryz.pinned (OpenSpec.upto upolyDividesSpec)

/-- 'quadraturelaw10.UpolyGcd', WHERE WHAT IT READS IS OF BULK AT MOST 1048576: true; the input reads as it did. -/
def upolyGcdUptoRow : OpenClaim := { program := "ytcmfkhicjhliaaagreat", sum := "d68c0d7b663aca4cfe9722a0969d3090b7e236fbf9310e095982bb5470682a0d", func := "quadrature/quadraturelaw10.UpolyGcd", spec := "upolyGcd", unfollowed := true, recurses := true, plainKeys := false, apart := false, narrowed := true }
def UpolyGcdUptoSaid : Prop := upolyGcdUptoRow.holds Tryz.pinned (OpenSpec.upto upolyGcdSpec)

/-- 'quadraturelaw10.UpolySolves', WHERE WHAT IT READS IS OF BULK AT MOST 1048576: true; the input reads as it did. -/
def upolySolvesUptoRow : OpenClaim := { program := "ytcmfkhicjhliaaagreat", sum := "d68c0d7b663aca4cfe9722a0969d3090b7e236fbf9310e095982bb5470682a0d", func := "quadrature/quadraturelaw10.UpolySolves", spec := "upolySolves", unfollowed := true, recurses := true, plainKeys := false, apart := false, narrowed := true }
def UpolySolvesUptoSaid : Prop := upolySolvesUptoRow.holds Tryz.pinned (OpenSpec.upto upolySolvesSpec)

/-- 'quadraturelaw10.UpolySquarefree', WHERE WHAT IT READS IS OF BULK AT MOST 1048576: true; the input reads as it did. -/
def upolySquarefreeUptoRow : OpenClaim := { program := "ytcmfkhicjhliaaagreat", sum := "d68c0d7b663aca4cfe9722a0969d3090b7e236fbf9310e095982bb5470682a0d", func := "quadrature/quadraturelaw10.UpolySquarefree", spec := "upolySquarefree", unfollowed := true, recurses := true, plainKeys := false, apart := false, narrowed := true }
def UpolySquarefreeUptoSaid : Prop := upolySquarefreeUptoRow.holds Tryz.pinned (OpenSpec.upto upolySquarefreeSpec)

/-- 'quadraturelaw10.UpolyResultants', WHERE WHAT IT READS IS OF BULK AT MOST 1048576: true; the input reads as it did. -/
def upolyResultantsUptoRow : OpenClaim := { program := "ytcmfkhicjhliaaagreat", sum := "d68c0d7b663aca4cfe9722a0969d3090b7e236fbf9310e095982bb5470682a0d", func := "quadrature/quadraturelaw10.UpolyResultants", spec := "upolyResultants", unfollowed := true, recurses := true, plainKeys := false, apart := false, narrowed := true }
def UpolyResultantsUptoSaid : Prop := upolyResultantsUptoRow.holds Tryz.pinned (OpenSpec.upto upolyResultantsSpec)

/-- 'quadraturelaw10.UpolyConverts', WHERE WHAT IT READS IS OF BULK AT MOST 1048576: true; the input reads as it did. -/
def upolyConvertsUptoRow : OpenClaim := { program := "ytcmfkhicjhliaaagreat", sum := "d68c0d7b663aca4cfe9722a0969d3090b7e236fbf9310e095982bb5470682a0d", func := "quadrature/quadraturelaw10.UpolyConverts", spec := "upolyConverts", unfollowed := true, recurses := true, plainKeys := false, apart := false, narrowed := true }
def UpolyConvertsUptoSaid : Prop := upolyConvertsUptoRow.holds Tryz.pinned (OpenSpec.upto upolyConvertsSpec)

/-- 'quadraturelaw10.UpolyMatchesReference', WHERE WHAT IT READS IS OF BULK AT MOST 1048576: true; the input reads as it did. -/
def upolyMatchesReferenceUptoRow : OpenClaim := { program := "ytcmfkhicjhliaaagreat", sum := "d68c0d7b663aca4cfe9722a0969d3090b7e236fbf9310e095982bb5470682a0d", func := "quadrature/quadraturelaw10.UpolyMatchesReference", spec := "upolyMatchesReference", unfollowed := true, recurses := true, plainKeys := false, apart := false, narrowed := true }
def UpolyMatchesReferenceUptoSaid : Prop := upolyMatchesReferenceUptoRow.holds Tryz.pinned (OpenSpec.upto upolyMatchesReferenceSpec)

end Rows
end Go.Proofs.YtcmfkhicjhliaaaGreat
