/-
  No cell of these rows narrows 'for every input' (looked for: loops, veiled, ifaces, maps, wideKeys, modest, calm, conditions, laid).
  DERIVED. THE GIVEN ROWS OF THIS SEAT. 7 by the template 'for every input the law returns true; each argument reads behind the call as it read before'; 0 by the template 'total and deterministic' (their statements: YtponbabbabnaeaaGreatTotals.lean).
  GIVEN WITH THE SEED: the statements are not yours to turn. If you find one false, say at which input.
  Laid BY PROGRAM, IN A SANDBOX (cutbox-rows.mjs): the forced cells as the released guide's own fill.sh prints them over the translation dbc2289117e39323… (all of the seat's roots in one cut). By AI agents, Wed Nov 11 2026. No macro, syntax, notation, axiom, sorry.
-/
import Derived.Test.YtponbabbabnaeaaGreatChecked
import GoSem.Claim
import GoSem.ClaimJoined
import GoSem.ClaimMapViews
import Derived.JoinedTies
import Derived.KernelRfl
namespace Go.Proofs.YtponbabbabnaeaaGreat
/- THE CELL 'sum', in the pinned program and in every row, IS THE sha256 OF THE DUMP (.gsa) THAT YtponbabbabnaeaaGreatProg.lean LOADS. Nothing in Lean hashes anything: it is a label: what it is worth is what the hold of that sum in a sandbox is worth. -/
noncomputable def Tryz.pinned : Pinned := { name := "ytponbabbabnaeaagreat", sum := "dbc2289117e3932309bf2680696a88d33579d44aeccdf0e4aceb2370eb9c312a", checked := Tryz.checked }
namespace Rows
def none {H : Type} : Left H := { results := [], args := [] }

/-- 'actorgridlaw12.CastSteps': WHATEVER THE INPUT: true; the input reads as it did. -/
def castStepsSpec : ChangeSpec := { name := "castSteps", fn := fun _ => fun
  | [d1, d2, d3, d4] => { results := [.lit (.bool true)], args := [d1, d2, d3, d4] }
  | _ => none }
def castStepsRow : OpenClaim := { program := "ytponbabbabnaeaagreat", sum := "dbc2289117e3932309bf2680696a88d33579d44aeccdf0e4aceb2370eb9c312a", func := "actorgrid/actorgridlaw12.CastSteps", spec := "castSteps", inPlace := ["slices.overlaps[actorgrid/api.Flush]", "slices.overlaps[actorgrid/api.Mark]"], unfollowed := true, recurses := true, apart := false }
def CastStepsSaid : Prop := castStepsRow.holds Tryz.pinned (OpenSpec.ofChange castStepsSpec)

/-- ITS FALSE NEIGHBOUR: 'it returns false'. Refute it at one input. -/
def castStepsWrong : ChangeSpec := { name := "castSteps", fn := fun _ => fun
  | [d1, d2, d3, d4] => { results := [.lit (.bool false)], args := [d1, d2, d3, d4] }
  | _ => none }
def CastStepsWrongFalsely : Prop := castStepsRow.holds Tryz.pinned (OpenSpec.ofChange castStepsWrong)

/-- 'actorgridlaw12.CastAlone': WHATEVER THE INPUT: true; the input reads as it did. -/
def castAloneSpec : ChangeSpec := { name := "castAlone", fn := fun _ => fun
  | [d1, d2, d3] => { results := [.lit (.bool true)], args := [d1, d2, d3] }
  | _ => none }
def castAloneRow : OpenClaim := { program := "ytponbabbabnaeaagreat", sum := "dbc2289117e3932309bf2680696a88d33579d44aeccdf0e4aceb2370eb9c312a", func := "actorgrid/actorgridlaw12.CastAlone", spec := "castAlone", inPlace := ["slices.overlaps[actorgrid/api.Flush]", "slices.overlaps[actorgrid/api.Mark]"], unfollowed := true, recurses := true, apart := false }
def CastAloneSaid : Prop := castAloneRow.holds Tryz.pinned (OpenSpec.ofChange castAloneSpec)

/-- ITS FALSE NEIGHBOUR: 'it returns false'. Refute it at one input. -/
def castAloneWrong : ChangeSpec := { name := "castAlone", fn := fun _ => fun
  | [d1, d2, d3] => { results := [.lit (.bool false)], args := [d1, d2, d3] }
  | _ => none }
def CastAloneWrongFalsely : Prop := castAloneRow.holds Tryz.pinned (OpenSpec.ofChange castAloneWrong)

/-- 'actorgridlaw12.CastClosed': WHATEVER THE INPUT: true; the input reads as it did. -/
def castClosedSpec : ChangeSpec := { name := "castClosed", fn := fun _ => fun
  | [d1, d2, d3, d4, d5] => { results := [.lit (.bool true)], args := [d1, d2, d3, d4, d5] }
  | _ => none }
def castClosedRow : OpenClaim := { program := "ytponbabbabnaeaagreat", sum := "dbc2289117e3932309bf2680696a88d33579d44aeccdf0e4aceb2370eb9c312a", func := "actorgrid/actorgridlaw12.CastClosed", spec := "castClosed", inPlace := ["slices.overlaps[actorgrid/api.Flush]", "slices.overlaps[actorgrid/api.Mark]"], unfollowed := true, recurses := true, apart := false }
def CastClosedSaid : Prop := castClosedRow.holds Tryz.pinned (OpenSpec.ofChange castClosedSpec)

/-- ITS FALSE NEIGHBOUR: 'it returns false'. Refute it at one input. -/
def castClosedWrong : ChangeSpec := { name := "castClosed", fn := fun _ => fun
  | [d1, d2, d3, d4, d5] => { results := [.lit (.bool false)], args := [d1, d2, d3, d4, d5] }
  | _ => none }
def CastClosedWrongFalsely : Prop := castClosedRow.holds Tryz.pinned (OpenSpec.ofChange castClosedWrong)

/-- 'actorgridlaw12.CastCalm': WHATEVER THE INPUT: true; the input reads as it did. -/
def castCalmSpec : ChangeSpec := { name := "castCalm", fn := fun _ => fun
  | [d1, d2, d3] => { results := [.lit (.bool true)], args := [d1, d2, d3] }
  | _ => none }
def castCalmRow : OpenClaim := { program := "ytponbabbabnaeaagreat", sum := "dbc2289117e3932309bf2680696a88d33579d44aeccdf0e4aceb2370eb9c312a", func := "actorgrid/actorgridlaw12.CastCalm", spec := "castCalm", inPlace := ["slices.overlaps[actorgrid/api.Flush]", "slices.overlaps[actorgrid/api.Mark]"], unfollowed := true, recurses := true, apart := false }
def CastCalmSaid : Prop := castCalmRow.holds Tryz.pinned (OpenSpec.ofChange castCalmSpec)

/-- ITS FALSE NEIGHBOUR: 'it returns false'. Refute it at one input. -/
def castCalmWrong : ChangeSpec := { name := "castCalm", fn := fun _ => fun
  | [d1, d2, d3] => { results := [.lit (.bool false)], args := [d1, d2, d3] }
  | _ => none }
def CastCalmWrongFalsely : Prop := castCalmRow.holds Tryz.pinned (OpenSpec.ofChange castCalmWrong)

/-- 'actorgridlaw12.CastOrder': WHATEVER THE INPUT: true; the input reads as it did. -/
def castOrderSpec : ChangeSpec := { name := "castOrder", fn := fun _ => fun
  | [d1, d2] => { results := [.lit (.bool true)], args := [d1, d2] }
  | _ => none }
def castOrderRow : OpenClaim := { program := "ytponbabbabnaeaagreat", sum := "dbc2289117e3932309bf2680696a88d33579d44aeccdf0e4aceb2370eb9c312a", func := "actorgrid/actorgridlaw12.CastOrder", spec := "castOrder", inPlace := ["slices.overlaps[actorgrid/api.Flush]", "slices.overlaps[actorgrid/api.Mark]"], unfollowed := true, recurses := true, apart := false }
def CastOrderSaid : Prop := castOrderRow.holds Tryz.pinned (OpenSpec.ofChange castOrderSpec)

/-- ITS FALSE NEIGHBOUR: 'it returns false'. Refute it at one input. -/
def castOrderWrong : ChangeSpec := { name := "castOrder", fn := fun _ => fun
  | [d1, d2] => { results := [.lit (.bool false)], args := [d1, d2] }
  | _ => none }
def CastOrderWrongFalsely : Prop := castOrderRow.holds Tryz.pinned (OpenSpec.ofChange castOrderWrong)

/-- 'actorgridlaw12.CastCreates': WHATEVER THE INPUT: true; the input reads as it did. -/
def castCreatesSpec : ChangeSpec := { name := "castCreates", fn := fun _ => fun
  | [d1, d2] => { results := [.lit (.bool true)], args := [d1, d2] }
  | _ => none }
def castCreatesRow : OpenClaim := { program := "ytponbabbabnaeaagreat", sum := "dbc2289117e3932309bf2680696a88d33579d44aeccdf0e4aceb2370eb9c312a", func := "actorgrid/actorgridlaw12.CastCreates", spec := "castCreates", inPlace := ["slices.overlaps[actorgrid/api.Flush]", "slices.overlaps[actorgrid/api.Mark]"], unfollowed := true, recurses := true, apart := false }
def CastCreatesSaid : Prop := castCreatesRow.holds Tryz.pinned (OpenSpec.ofChange castCreatesSpec)

/-- ITS FALSE NEIGHBOUR: 'it returns false'. Refute it at one input. -/
def castCreatesWrong : ChangeSpec := { name := "castCreates", fn := fun _ => fun
  | [d1, d2] => { results := [.lit (.bool false)], args := [d1, d2] }
  | _ => none }
def CastCreatesWrongFalsely : Prop := castCreatesRow.holds Tryz.pinned (OpenSpec.ofChange castCreatesWrong)

/-- 'actorgridlaw12.CastKeeps': WHATEVER THE INPUT: true; the input reads as it did. -/
def castKeepsSpec : ChangeSpec := { name := "castKeeps", fn := fun _ => fun
  | [d1, d2] => { results := [.lit (.bool true)], args := [d1, d2] }
  | _ => none }
def castKeepsRow : OpenClaim := { program := "ytponbabbabnaeaagreat", sum := "dbc2289117e3932309bf2680696a88d33579d44aeccdf0e4aceb2370eb9c312a", func := "actorgrid/actorgridlaw12.CastKeeps", spec := "castKeeps", inPlace := ["slices.overlaps[actorgrid/api.Flush]", "slices.overlaps[actorgrid/api.Mark]"], unfollowed := true, recurses := true, apart := false }
def CastKeepsSaid : Prop := castKeepsRow.holds Tryz.pinned (OpenSpec.ofChange castKeepsSpec)

/-- ITS FALSE NEIGHBOUR: 'it returns false'. Refute it at one input. -/
def castKeepsWrong : ChangeSpec := { name := "castKeeps", fn := fun _ => fun
  | [d1, d2] => { results := [.lit (.bool false)], args := [d1, d2] }
  | _ => none }
def CastKeepsWrongFalsely : Prop := castKeepsRow.holds Tryz.pinned (OpenSpec.ofChange castKeepsWrong)

/- THE SECOND FORM. 'bulk': how many values and letters a reading holds, each counted each time it is reached (what is shared counts as often as it is met; a slice's spare places count too). A statement '..UptoSaid' is the law's where the arguments, and the package variables that the reading takes, are together of bulk at most 1048576: NARROWER than '..Said'. Prove '..Said' where nothing that the law and all that it calls make is longer than what came in: it says more and counts as full. Else prove '..UptoSaid'. A law counts once. -/
mutual
def uptoBulk {H : Type} : DataW H → Nat
  | .lit (.string bytes) => bytes.length + 1
  | .lit _ => 1
  | .nil => 1
  | .ptr d => uptoBulk d + 1
  | .slice elems spare => uptoBulkAll elems + uptoBulkAll spare + 1
  | .agg parts => uptoBulkAll parts + 1
  | .iface _ d => uptoBulk d + 1
  | .map entries => uptoBulkEntries entries + 1
  | .held _ => 1
def uptoBulkAll {H : Type} : List (DataW H) → Nat
  | [] => 0
  | d :: r => uptoBulk d + uptoBulkAll r
def uptoBulkEntries {H : Type} : List (Lit × DataW H) → Nat
  | [] => 0
  | x :: r => uptoBulkEntry x + uptoBulkEntries r
def uptoBulkEntry {H : Type} : Lit × DataW H → Nat
  | (.string bytes, d) => bytes.length + uptoBulk d + 1
  | (_, d) => uptoBulk d + 1
 end
def uptoSmall : (H : Type) → List (DataW H) → Bool := fun _ ds => decide (uptoBulkAll ds ≤ 1048576)
def OpenSpec.upto (s : _root_.Go.ChangeSpec) : _root_.Go.OpenSpec := { _root_.Go.OpenSpec.ofChange s with cond := some uptoSmall }

/-- 'actorgridlaw12.CastSteps', WHERE WHAT IT READS IS OF BULK AT MOST 1048576: true; the input reads as it did. -/
def castStepsUptoRow : OpenClaim := { program := "ytponbabbabnaeaagreat", sum := "dbc2289117e3932309bf2680696a88d33579d44aeccdf0e4aceb2370eb9c312a", func := "actorgrid/actorgridlaw12.CastSteps", spec := "castSteps", inPlace := ["slices.overlaps[actorgrid/api.Flush]", "slices.overlaps[actorgrid/api.Mark]"], unfollowed := true, recurses := true, apart := false, narrowed := true }
def CastStepsUptoSaid : Prop := castStepsUptoRow.holds Tryz.pinned (OpenSpec.upto castStepsSpec)

/-- 'actorgridlaw12.CastAlone', WHERE WHAT IT READS IS OF BULK AT MOST 1048576: true; the input reads as it did. -/
def castAloneUptoRow : OpenClaim := { program := "ytponbabbabnaeaagreat", sum := "dbc2289117e3932309bf2680696a88d33579d44aeccdf0e4aceb2370eb9c312a", func := "actorgrid/actorgridlaw12.CastAlone", spec := "castAlone", inPlace := ["slices.overlaps[actorgrid/api.Flush]", "slices.overlaps[actorgrid/api.Mark]"], unfollowed := true, recurses := true, apart := false, narrowed := true }
def CastAloneUptoSaid : Prop := castAloneUptoRow.holds Tryz.pinned (OpenSpec.upto castAloneSpec)

/-- 'actorgridlaw12.CastClosed', WHERE WHAT IT READS IS OF BULK AT MOST 1048576: true; the input reads as it did. -/
def castClosedUptoRow : OpenClaim := { program := "ytponbabbabnaeaagreat", sum := "dbc2289117e3932309bf2680696a88d33579d44aeccdf0e4aceb2370eb9c312a", func := "actorgrid/actorgridlaw12.CastClosed", spec := "castClosed", inPlace := ["slices.overlaps[actorgrid/api.Flush]", "slices.overlaps[actorgrid/api.Mark]"], unfollowed := true, recurses := true, apart := false, narrowed := true }
def CastClosedUptoSaid : Prop := castClosedUptoRow.holds Tryz.pinned (OpenSpec.upto castClosedSpec)

/-- 'actorgridlaw12.CastCalm', WHERE WHAT IT READS IS OF BULK AT MOST 1048576: true; the input reads as it did. -/
def castCalmUptoRow : OpenClaim := { program := "ytponbabbabnaeaagreat", sum := "dbc2289117e3932309bf2680696a88d33579d44aeccdf0e4aceb2370eb9c312a", func := "actorgrid/actorgridlaw12.CastCalm", spec := "castCalm", inPlace := ["slices.overlaps[actorgrid/api.Flush]", "slices.overlaps[actorgrid/api.Mark]"], unfollowed := true, recurses := true, apart := false, narrowed := true }
def CastCalmUptoSaid : Prop := castCalmUptoRow.holds Tryz.pinned (OpenSpec.upto castCalmSpec)

/-- 'actorgridlaw12.CastOrder', WHERE WHAT IT READS IS OF BULK AT MOST 1048576: true; the input reads as it did. -/
def castOrderUptoRow : OpenClaim := { program := "ytponbabbabnaeaagreat", sum := "dbc2289117e3932309bf2680696a88d33579d44aeccdf0e4aceb2370eb9c312a", func := "actorgrid/actorgridlaw12.CastOrder", spec := "castOrder", inPlace := ["slices.overlaps[actorgrid/api.Flush]", "slices.overlaps[actorgrid/api.Mark]"], unfollowed := true, recurses := true, apart := false, narrowed := true }
def CastOrderUptoSaid : Prop := castOrderUptoRow.holds Tryz.pinned (OpenSpec.upto castOrderSpec)

/-- 'actorgridlaw12.CastCreates', WHERE WHAT IT READS IS OF BULK AT MOST 1048576: true; the input reads as it did. -/
def castCreatesUptoRow : OpenClaim := { program := "ytponbabbabnaeaagreat", sum := "dbc2289117e3932309bf2680696a88d33579d44aeccdf0e4aceb2370eb9c312a", func := "actorgrid/actorgridlaw12.CastCreates", spec := "castCreates", inPlace := ["slices.overlaps[actorgrid/api.Flush]", "slices.overlaps[actorgrid/api.Mark]"], unfollowed := true, recurses := true, apart := false, narrowed := true }
def CastCreatesUptoSaid : Prop := castCreatesUptoRow.holds Tryz.pinned (OpenSpec.upto castCreatesSpec)

/-- 'actorgridlaw12.CastKeeps', WHERE WHAT IT READS IS OF BULK AT MOST 1048576: true; the input reads as it did. -/
def castKeepsUptoRow : OpenClaim := { program := "ytponbabbabnaeaagreat", sum := "dbc2289117e3932309bf2680696a88d33579d44aeccdf0e4aceb2370eb9c312a", func := "actorgrid/actorgridlaw12.CastKeeps", spec := "castKeeps", inPlace := ["slices.overlaps[actorgrid/api.Flush]", "slices.overlaps[actorgrid/api.Mark]"], unfollowed := true, recurses := true, apart := false, narrowed := true }
def CastKeepsUptoSaid : Prop := castKeepsUptoRow.holds Tryz.pinned (OpenSpec.upto castKeepsSpec)

end Rows
end Go.Proofs.YtponbabbabnaeaaGreat
