/-
  No cell of these rows narrows 'for every input' (looked for: loops, veiled, ifaces, maps, wideKeys, modest, calm, conditions, laid).
  DERIVED. THE GIVEN ROWS OF THIS SEAT. 11 by the template 'for every input the law returns true; each argument reads behind the call as it read before'; 0 by the template 'total and deterministic' (their statements: YtfglpaaeipblcaaTotals.lean).
  GIVEN WITH THE SEED: the statements are not yours to turn. If you find one false, say at which input.
  Laid BY PROGRAM, IN A SANDBOX (cutbox-rows.mjs): the forced cells as the released guide's own fill.sh prints them over the translation 23c14b7c9699aeed… (all of the seat's roots in one cut). By AI agents, Wed Nov 11 2026. No macro, syntax, notation, axiom, sorry.
-/
import Derived.Test.YtfglpaaeipblcaaChecked
import GoSem.Claim
import GoSem.ClaimJoined
import GoSem.ClaimMapViews
import Derived.JoinedTies
import Derived.KernelRfl
namespace Go.Proofs.Ytfglpaaeipblcaa
/- THE CELL 'sum', in the pinned program and in every row, IS THE sha256 OF THE DUMP (.gsa) THAT YtfglpaaeipblcaaProg.lean LOADS. Nothing in Lean hashes anything: it is a label: what it is worth is what the hold of that sum in a sandbox is worth. -/
noncomputable def Try.pinned : Pinned := { name := "ytfglpaaeipblcaa", sum := "23c14b7c9699aeed5a3e36c1e3ca2159df3fb9255e125763f91b9723dda3cb8f", checked := Try.checked }
namespace Rows
def none {H : Type} : Left H := { results := [], args := [] }

/-- 'flyballlaw07.ConvFrom': WHATEVER THE INPUT: true; the input reads as it did. -/
def convFromSpec : ChangeSpec := { name := "convFrom", fn := fun _ => fun
  | [d1, d2] => { results := [.lit (.bool true)], args := [d1, d2] }
  | _ => none }
def convFromRow : OpenClaim := { program := "ytfglpaaeipblcaa", sum := "23c14b7c9699aeed5a3e36c1e3ca2159df3fb9255e125763f91b9723dda3cb8f", func := "flyball/flyballlaw07.ConvFrom", spec := "convFrom", apart := false }
def ConvFromSaid : Prop := convFromRow.holds Try.pinned (OpenSpec.ofChange convFromSpec)

/-- ITS FALSE NEIGHBOUR: 'it returns false'. Refute it at one input. -/
def convFromWrong : ChangeSpec := { name := "convFrom", fn := fun _ => fun
  | [d1, d2] => { results := [.lit (.bool false)], args := [d1, d2] }
  | _ => none }
def ConvFromWrongFalsely : Prop := convFromRow.holds Try.pinned (OpenSpec.ofChange convFromWrong)

/-- 'flyballlaw07.ConvTo': WHATEVER THE INPUT: true; the input reads as it did. -/
def convToSpec : ChangeSpec := { name := "convTo", fn := fun _ => fun
  | [d] => { results := [.lit (.bool true)], args := [d] }
  | _ => none }
def convToRow : OpenClaim := { program := "ytfglpaaeipblcaa", sum := "23c14b7c9699aeed5a3e36c1e3ca2159df3fb9255e125763f91b9723dda3cb8f", func := "flyball/flyballlaw07.ConvTo", spec := "convTo", apart := false }
def ConvToSaid : Prop := convToRow.holds Try.pinned (OpenSpec.ofChange convToSpec)

/-- ITS FALSE NEIGHBOUR: 'it returns false'. Refute it at one input. -/
def convToWrong : ChangeSpec := { name := "convTo", fn := fun _ => fun
  | [d] => { results := [.lit (.bool false)], args := [d] }
  | _ => none }
def ConvToWrongFalsely : Prop := convToRow.holds Try.pinned (OpenSpec.ofChange convToWrong)

/-- 'flyballlaw07.ConvWhole': WHATEVER THE INPUT: true; the input reads as it did. -/
def convWholeSpec : ChangeSpec := { name := "convWhole", fn := fun _ => fun
  | [d1, d2] => { results := [.lit (.bool true)], args := [d1, d2] }
  | _ => none }
def convWholeRow : OpenClaim := { program := "ytfglpaaeipblcaa", sum := "23c14b7c9699aeed5a3e36c1e3ca2159df3fb9255e125763f91b9723dda3cb8f", func := "flyball/flyballlaw07.ConvWhole", spec := "convWhole", apart := false }
def ConvWholeSaid : Prop := convWholeRow.holds Try.pinned (OpenSpec.ofChange convWholeSpec)

/-- ITS FALSE NEIGHBOUR: 'it returns false'. Refute it at one input. -/
def convWholeWrong : ChangeSpec := { name := "convWhole", fn := fun _ => fun
  | [d1, d2] => { results := [.lit (.bool false)], args := [d1, d2] }
  | _ => none }
def ConvWholeWrongFalsely : Prop := convWholeRow.holds Try.pinned (OpenSpec.ofChange convWholeWrong)

/-- 'flyballlaw07.ConvBack': WHATEVER THE INPUT: true; the input reads as it did. -/
def convBackSpec : ChangeSpec := { name := "convBack", fn := fun _ => fun
  | [d1, d2] => { results := [.lit (.bool true)], args := [d1, d2] }
  | _ => none }
def convBackRow : OpenClaim := { program := "ytfglpaaeipblcaa", sum := "23c14b7c9699aeed5a3e36c1e3ca2159df3fb9255e125763f91b9723dda3cb8f", func := "flyball/flyballlaw07.ConvBack", spec := "convBack", apart := false }
def ConvBackSaid : Prop := convBackRow.holds Try.pinned (OpenSpec.ofChange convBackSpec)

/-- ITS FALSE NEIGHBOUR: 'it returns false'. Refute it at one input. -/
def convBackWrong : ChangeSpec := { name := "convBack", fn := fun _ => fun
  | [d1, d2] => { results := [.lit (.bool false)], args := [d1, d2] }
  | _ => none }
def ConvBackWrongFalsely : Prop := convBackRow.holds Try.pinned (OpenSpec.ofChange convBackWrong)

/-- 'flyballlaw05.RoundRounds': WHATEVER THE INPUT: true; the input reads as it did. -/
def roundRoundsSpec : ChangeSpec := { name := "roundRounds", fn := fun _ => fun
  | [d1, d2, d3, d4, d5] => { results := [.lit (.bool true)], args := [d1, d2, d3, d4, d5] }
  | _ => none }
def roundRoundsRow : OpenClaim := { program := "ytfglpaaeipblcaa", sum := "23c14b7c9699aeed5a3e36c1e3ca2159df3fb9255e125763f91b9723dda3cb8f", func := "flyball/flyballlaw05.RoundRounds", spec := "roundRounds", unfollowed := true, recurses := true, apart := false }
def RoundRoundsSaid : Prop := roundRoundsRow.holds Try.pinned (OpenSpec.ofChange roundRoundsSpec)

/-- ITS FALSE NEIGHBOUR: 'it returns false'. Refute it at one input. -/
def roundRoundsWrong : ChangeSpec := { name := "roundRounds", fn := fun _ => fun
  | [d1, d2, d3, d4, d5] => { results := [.lit (.bool false)], args := [d1, d2, d3, d4, d5] }
  | _ => none }
def RoundRoundsWrongFalsely : Prop := roundRoundsRow.holds Try.pinned (OpenSpec.ofChange roundRoundsWrong)

/-- 'flyballlaw05.RoundExacts': WHATEVER THE INPUT: true; the input reads as it did. -/
def roundExactsSpec : ChangeSpec := { name := "roundExacts", fn := fun _ => fun
  | [d1, d2] => { results := [.lit (.bool true)], args := [d1, d2] }
  | _ => none }
def roundExactsRow : OpenClaim := { program := "ytfglpaaeipblcaa", sum := "23c14b7c9699aeed5a3e36c1e3ca2159df3fb9255e125763f91b9723dda3cb8f", func := "flyball/flyballlaw05.RoundExacts", spec := "roundExacts", unfollowed := true, recurses := true, apart := false }
def RoundExactsSaid : Prop := roundExactsRow.holds Try.pinned (OpenSpec.ofChange roundExactsSpec)

/-- ITS FALSE NEIGHBOUR: 'it returns false'. Refute it at one input. -/
def roundExactsWrong : ChangeSpec := { name := "roundExacts", fn := fun _ => fun
  | [d1, d2] => { results := [.lit (.bool false)], args := [d1, d2] }
  | _ => none }
def RoundExactsWrongFalsely : Prop := roundExactsRow.holds Try.pinned (OpenSpec.ofChange roundExactsWrong)

/-- 'flyballlaw05.RoundUlps': WHATEVER THE INPUT: true; the input reads as it did. -/
def roundUlpsSpec : ChangeSpec := { name := "roundUlps", fn := fun _ => fun
  | [d] => { results := [.lit (.bool true)], args := [d] }
  | _ => none }
def roundUlpsRow : OpenClaim := { program := "ytfglpaaeipblcaa", sum := "23c14b7c9699aeed5a3e36c1e3ca2159df3fb9255e125763f91b9723dda3cb8f", func := "flyball/flyballlaw05.RoundUlps", spec := "roundUlps", unfollowed := true, recurses := true, apart := false }
def RoundUlpsSaid : Prop := roundUlpsRow.holds Try.pinned (OpenSpec.ofChange roundUlpsSpec)

/-- ITS FALSE NEIGHBOUR: 'it returns false'. Refute it at one input. -/
def roundUlpsWrong : ChangeSpec := { name := "roundUlps", fn := fun _ => fun
  | [d] => { results := [.lit (.bool false)], args := [d] }
  | _ => none }
def RoundUlpsWrongFalsely : Prop := roundUlpsRow.holds Try.pinned (OpenSpec.ofChange roundUlpsWrong)

/-- 'flyballlaw05.RoundStays': WHATEVER THE INPUT: true; the input reads as it did. -/
def roundStaysSpec : ChangeSpec := { name := "roundStays", fn := fun _ => fun
  | [d1, d2] => { results := [.lit (.bool true)], args := [d1, d2] }
  | _ => none }
def roundStaysRow : OpenClaim := { program := "ytfglpaaeipblcaa", sum := "23c14b7c9699aeed5a3e36c1e3ca2159df3fb9255e125763f91b9723dda3cb8f", func := "flyball/flyballlaw05.RoundStays", spec := "roundStays", unfollowed := true, recurses := true, apart := false }
def RoundStaysSaid : Prop := roundStaysRow.holds Try.pinned (OpenSpec.ofChange roundStaysSpec)

/-- ITS FALSE NEIGHBOUR: 'it returns false'. Refute it at one input. -/
def roundStaysWrong : ChangeSpec := { name := "roundStays", fn := fun _ => fun
  | [d1, d2] => { results := [.lit (.bool false)], args := [d1, d2] }
  | _ => none }
def RoundStaysWrongFalsely : Prop := roundStaysRow.holds Try.pinned (OpenSpec.ofChange roundStaysWrong)

/-- 'flyballlaw05.RoundRises': WHATEVER THE INPUT: true; the input reads as it did. -/
def roundRisesSpec : ChangeSpec := { name := "roundRises", fn := fun _ => fun
  | [d1, d2, d3] => { results := [.lit (.bool true)], args := [d1, d2, d3] }
  | _ => none }
def roundRisesRow : OpenClaim := { program := "ytfglpaaeipblcaa", sum := "23c14b7c9699aeed5a3e36c1e3ca2159df3fb9255e125763f91b9723dda3cb8f", func := "flyball/flyballlaw05.RoundRises", spec := "roundRises", unfollowed := true, recurses := true, apart := false }
def RoundRisesSaid : Prop := roundRisesRow.holds Try.pinned (OpenSpec.ofChange roundRisesSpec)

/-- ITS FALSE NEIGHBOUR: 'it returns false'. Refute it at one input. -/
def roundRisesWrong : ChangeSpec := { name := "roundRises", fn := fun _ => fun
  | [d1, d2, d3] => { results := [.lit (.bool false)], args := [d1, d2, d3] }
  | _ => none }
def RoundRisesWrongFalsely : Prop := roundRisesRow.holds Try.pinned (OpenSpec.ofChange roundRisesWrong)

/-- 'flyballlaw05.RoundHolds': WHATEVER THE INPUT: true; the input reads as it did. -/
def roundHoldsSpec : ChangeSpec := { name := "roundHolds", fn := fun _ => fun
  | [d1, d2] => { results := [.lit (.bool true)], args := [d1, d2] }
  | _ => none }
def roundHoldsRow : OpenClaim := { program := "ytfglpaaeipblcaa", sum := "23c14b7c9699aeed5a3e36c1e3ca2159df3fb9255e125763f91b9723dda3cb8f", func := "flyball/flyballlaw05.RoundHolds", spec := "roundHolds", unfollowed := true, recurses := true, apart := false }
def RoundHoldsSaid : Prop := roundHoldsRow.holds Try.pinned (OpenSpec.ofChange roundHoldsSpec)

/-- ITS FALSE NEIGHBOUR: 'it returns false'. Refute it at one input. -/
def roundHoldsWrong : ChangeSpec := { name := "roundHolds", fn := fun _ => fun
  | [d1, d2] => { results := [.lit (.bool false)], args := [d1, d2] }
  | _ => none }
def RoundHoldsWrongFalsely : Prop := roundHoldsRow.holds Try.pinned (OpenSpec.ofChange roundHoldsWrong)

/-- 'flyballlaw07.ConvNear': WHATEVER THE INPUT: true; the input reads as it did. -/
def convNearSpec : ChangeSpec := { name := "convNear", fn := fun _ => fun
  | [d1, d2] => { results := [.lit (.bool true)], args := [d1, d2] }
  | _ => none }
def convNearRow : OpenClaim := { program := "ytfglpaaeipblcaa", sum := "23c14b7c9699aeed5a3e36c1e3ca2159df3fb9255e125763f91b9723dda3cb8f", func := "flyball/flyballlaw07.ConvNear", spec := "convNear", unfollowed := true, recurses := true, apart := false }
def ConvNearSaid : Prop := convNearRow.holds Try.pinned (OpenSpec.ofChange convNearSpec)

/-- ITS FALSE NEIGHBOUR: 'it returns false'. Refute it at one input. -/
def convNearWrong : ChangeSpec := { name := "convNear", fn := fun _ => fun
  | [d1, d2] => { results := [.lit (.bool false)], args := [d1, d2] }
  | _ => none }
def ConvNearWrongFalsely : Prop := convNearRow.holds Try.pinned (OpenSpec.ofChange convNearWrong)

/- THE SECOND FORM. 'bulk': how many values and letters a reading holds, each counted each time it is reached (what is shared counts as often as it is met; a slice's spare places count too). A statement '..UptoSaid' is the law's where the arguments, and the package variables that the reading takes, are together of bulk at most 1048576: NARROWER than '..Said'. Prove '..Said' where nothing that the law and all that it calls make is longer than what came in: it says more and counts as full. Else prove '..UptoSaid'. A law counts once. -/
mutual
def uptoBulk {H : Type} : DataW H → Nat
  | .lit (.string bytes) => bytes.length + 1
  | .lit _ => 1
  | .nil => 1
  | .ptr d => uptoBulk d + 1
  | .slice elems spare => uptoBulkAll elems + uptoBulkAll spare + 1
  | .agg parts => uptoBulkAll parts + 1
  | .iface _ d => uptoBulk d + 1
  | .map entries => uptoBulkEntries entries + 1
  | .held _ => 1
def uptoBulkAll {H : Type} : List (DataW H) → Nat
  | [] => 0
  | d :: r => uptoBulk d + uptoBulkAll r
def uptoBulkEntries {H : Type} : List (Lit × DataW H) → Nat
  | [] => 0
  | x :: r => uptoBulkEntry x + uptoBulkEntries r
def uptoBulkEntry {H : Type} : Lit × DataW H → Nat
  | (.string bytes, d) => bytes.length + uptoBulk d + 1
  | (_, d) => uptoBulk d + 1
 end
def uptoSmall : (H : Type) → List (DataW H) → Bool := fun _ ds => decide (uptoBulkAll ds ≤ 1048576)
def OpenSpec.upto (s : _root_.Go.ChangeSpec) : _root_.Go.OpenSpec := { _root_.Go.OpenSpec.ofChange s with cond := some uptoSmall }

/-- 'flyballlaw07.ConvFrom', WHERE WHAT IT READS IS OF BULK AT MOST 1048576: true; the input reads as it did. -/
def convFromUptoRow : OpenClaim := { program := "ytfglpaaeipblcaa", sum := "23c14b7c9699aeed5a3e36c1e3ca2159df3fb9255e125763f91b9723dda3cb8f", func := "flyball/flyballlaw07.ConvFrom", spec := "convFrom", apart := false, narrowed := true }
def ConvFromUptoSaid : Prop := convFromUptoRow.holds Try.pinned (OpenSpec.upto convFromSpec)

/-- 'flyballlaw07.ConvTo', WHERE WHAT IT READS IS OF BULK AT MOST 1048576: true; the input reads as it did. -/
def convToUptoRow : OpenClaim := { program := "ytfglpaaeipblcaa", sum := "23c14b7c9699aeed5a3e36c1e3ca2159df3fb9255e125763f91b9723dda3cb8f", func := "flyball/flyballlaw07.ConvTo", spec := "convTo", apart := false, narrowed := true }
def ConvToUptoSaid : Prop := convToUptoRow.holds Try.pinned (OpenSpec.upto convToSpec)

/-- 'flyballlaw07.ConvWhole', WHERE WHAT IT READS IS OF BULK AT MOST 1048576: true; the input reads as it did. -/
def convWholeUptoRow : OpenClaim := { program := "ytfglpaaeipblcaa", sum := "23c14b7c9699aeed5a3e36c1e3ca2159df3fb9255e125763f91b9723dda3cb8f", func := "flyball/flyballlaw07.ConvWhole", spec := "convWhole", apart := false, narrowed := true }
def ConvWholeUptoSaid : Prop := convWholeUptoRow.holds Try.pinned (OpenSpec.upto convWholeSpec)

/-- 'flyballlaw07.ConvBack', WHERE WHAT IT READS IS OF BULK AT MOST 1048576: true; the input reads as it did. -/
def convBackUptoRow : OpenClaim := { program := "ytfglpaaeipblcaa", sum := "23c14b7c9699aeed5a3e36c1e3ca2159df3fb9255e125763f91b9723dda3cb8f", func := "flyball/flyballlaw07.ConvBack", spec := "convBack", apart := false, narrowed := true }
def ConvBackUptoSaid : Prop := convBackUptoRow.holds Try.pinned (OpenSpec.upto convBackSpec)

/-- 'flyballlaw05.RoundRounds', WHERE WHAT IT READS IS OF BULK AT MOST 1048576: true; the input reads as it did. -/
def roundRoundsUptoRow : OpenClaim := { program := "ytfglpaaeipblcaa", sum := "23c14b7c9699aeed5a3e36c1e3ca2159df3fb9255e125763f91b9723dda3cb8f", func := "flyball/flyballlaw05.RoundRounds", spec := "roundRounds", unfollowed := true, recurses := true, apart := false, narrowed := true }
def RoundRoundsUptoSaid : Prop := roundRoundsUptoRow.holds Try.pinned (OpenSpec.upto roundRoundsSpec)

/-- 'flyballlaw05.RoundExacts', WHERE WHAT IT READS IS OF BULK AT MOST 1048576: true; the input reads as it did. -/
def roundExactsUptoRow : OpenClaim := { program := "ytfglpaaeipblcaa", sum := "23c14b7c9699aeed5a3e36c1e3ca2159df3fb9255e125763f91b9723dda3cb8f", func := "flyball/flyballlaw05.RoundExacts", spec := "roundExacts", unfollowed := true, recurses := true, apart := false, narrowed := true }
def RoundExactsUptoSaid : Prop := roundExactsUptoRow.holds Try.pinned (OpenSpec.upto roundExactsSpec)

/-- 'flyballlaw05.RoundUlps', WHERE WHAT IT READS IS OF BULK AT MOST 1048576: true; the input reads as it did. -/
def roundUlpsUptoRow : OpenClaim := { program := "ytfglpaaeipblcaa", sum := "23c14b7c9699aeed5a3e36c1e3ca2159df3fb9255e125763f91b9723dda3cb8f", func := "flyball/flyballlaw05.RoundUlps", spec := "roundUlps", unfollowed := true, recurses := true, apart := false, narrowed := true }
def RoundUlpsUptoSaid : Prop := roundUlpsUptoRow.holds Try.pinned (OpenSpec.upto roundUlpsSpec)

/-- 'flyballlaw05.RoundStays', WHERE WHAT IT READS IS OF BULK AT MOST 1048576: true; the input reads as it did. -/
def roundStaysUptoRow : OpenClaim := { program := "ytfglpaaeipblcaa", sum := "23c14b7c9699aeed5a3e36c1e3ca2159df3fb9255e125763f91b9723dda3cb8f", func := "flyball/flyballlaw05.RoundStays", spec := "roundStays", unfollowed := true, recurses := true, apart := false, narrowed := true }
def RoundStaysUptoSaid : Prop := roundStaysUptoRow.holds Try.pinned (OpenSpec.upto roundStaysSpec)

/-- 'flyballlaw05.RoundRises', WHERE WHAT IT READS IS OF BULK AT MOST 1048576: true; the input reads as it did. -/
def roundRisesUptoRow : OpenClaim := { program := "ytfglpaaeipblcaa", sum := "23c14b7c9699aeed5a3e36c1e3ca2159df3fb9255e125763f91b9723dda3cb8f", func := "flyball/flyballlaw05.RoundRises", spec := "roundRises", unfollowed := true, recurses := true, apart := false, narrowed := true }
def RoundRisesUptoSaid : Prop := roundRisesUptoRow.holds Try.pinned (OpenSpec.upto roundRisesSpec)

/-- 'flyballlaw05.RoundHolds', WHERE WHAT IT READS IS OF BULK AT MOST 1048576: true; the input reads as it did. -/
def roundHoldsUptoRow : OpenClaim := { program := "ytfglpaaeipblcaa", sum := "23c14b7c9699aeed5a3e36c1e3ca2159df3fb9255e125763f91b9723dda3cb8f", func := "flyball/flyballlaw05.RoundHolds", spec := "roundHolds", unfollowed := true, recurses := true, apart := false, narrowed := true }
def RoundHoldsUptoSaid : Prop := roundHoldsUptoRow.holds Try.pinned (OpenSpec.upto roundHoldsSpec)

/-- 'flyballlaw07.ConvNear', WHERE WHAT IT READS IS OF BULK AT MOST 1048576: true; the input reads as it did. -/
def convNearUptoRow : OpenClaim := { program := "ytfglpaaeipblcaa", sum := "23c14b7c9699aeed5a3e36c1e3ca2159df3fb9255e125763f91b9723dda3cb8f", func := "flyball/flyballlaw07.ConvNear", spec := "convNear", unfollowed := true, recurses := true, apart := false, narrowed := true }
def ConvNearUptoSaid : Prop := convNearUptoRow.holds Try.pinned (OpenSpec.upto convNearSpec)

end Rows
end Go.Proofs.Ytfglpaaeipblcaa
