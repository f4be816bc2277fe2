/-
  No cell of these rows narrows 'for every input' (looked for: loops, veiled, ifaces, maps, wideKeys, modest, calm, conditions, laid).
  DERIVED. THE GIVEN ROWS OF THIS SEAT. 3 by the template 'for every input the law returns true; each argument reads behind the call as it read before'; 0 by the template 'total and deterministic' (their statements: YtinmckmdbepjcaaGreatTotals.lean).
  GIVEN WITH THE SEED: the statements are not yours to turn. If you find one false, say at which input.
  Laid BY PROGRAM, IN A SANDBOX (cutbox-rows.mjs): the forced cells as the released guide's own fill.sh prints them over the translation 4fd235683b866670… (all of the seat's roots in one cut). By AI agents, Wed Nov 11 2026. No macro, syntax, notation, axiom, sorry.
-/
import Derived.Test.YtinmckmdbepjcaaGreatChecked
import GoSem.Claim
import GoSem.ClaimJoined
import GoSem.ClaimMapViews
import Derived.JoinedTies
import Derived.KernelRfl
namespace Go.Proofs.YtinmckmdbepjcaaGreat
/- THE CELL 'sum', in the pinned program and in every row, IS THE sha256 OF THE DUMP (.gsa) THAT YtinmckmdbepjcaaGreatProg.lean LOADS. Nothing in Lean hashes anything: it is a label: what it is worth is what the hold of that sum in a sandbox is worth. -/
noncomputable def Tryz.pinned : Pinned := { name := "ytinmckmdbepjcaagreat", sum := "4fd235683b8666700bca92eab91e13ed261547dcac8adff323471466830968b4", checked := Tryz.checked }
namespace Rows
def none {H : Type} : Left H := { results := [], args := [] }

/-- 'hachurelaw13.FuseApplies': WHATEVER THE INPUT: true; the input reads as it did. -/
def fuseAppliesSpec : ChangeSpec := { name := "fuseApplies", fn := fun _ => fun
  | [d1, d2, d3] => { results := [.lit (.bool true)], args := [d1, d2, d3] }
  | _ => none }
def fuseAppliesRow : OpenClaim := { program := "ytinmckmdbepjcaagreat", sum := "4fd235683b8666700bca92eab91e13ed261547dcac8adff323471466830968b4", func := "hachure/hachurelaw13.FuseApplies", spec := "fuseApplies", inPlace := ["math.sqrt"], unfollowed := true, recurses := true, apart := false }
def FuseAppliesSaid : Prop := fuseAppliesRow.holds Tryz.pinned (OpenSpec.ofChange fuseAppliesSpec)

/-- ITS FALSE NEIGHBOUR: 'it returns false'. Refute it at one input. -/
def fuseAppliesWrong : ChangeSpec := { name := "fuseApplies", fn := fun _ => fun
  | [d1, d2, d3] => { results := [.lit (.bool false)], args := [d1, d2, d3] }
  | _ => none }
def FuseAppliesWrongFalsely : Prop := fuseAppliesRow.holds Tryz.pinned (OpenSpec.ofChange fuseAppliesWrong)

/-- 'hachurelaw13.FuseCans': WHATEVER THE INPUT: true; the input reads as it did. -/
def fuseCansSpec : ChangeSpec := { name := "fuseCans", fn := fun _ => fun
  | [d1, d2, d3] => { results := [.lit (.bool true)], args := [d1, d2, d3] }
  | _ => none }
def fuseCansRow : OpenClaim := { program := "ytinmckmdbepjcaagreat", sum := "4fd235683b8666700bca92eab91e13ed261547dcac8adff323471466830968b4", func := "hachure/hachurelaw13.FuseCans", spec := "fuseCans", inPlace := ["math.sqrt"], unfollowed := true, recurses := true, apart := false }
def FuseCansSaid : Prop := fuseCansRow.holds Tryz.pinned (OpenSpec.ofChange fuseCansSpec)

/-- ITS FALSE NEIGHBOUR: 'it returns false'. Refute it at one input. -/
def fuseCansWrong : ChangeSpec := { name := "fuseCans", fn := fun _ => fun
  | [d1, d2, d3] => { results := [.lit (.bool false)], args := [d1, d2, d3] }
  | _ => none }
def FuseCansWrongFalsely : Prop := fuseCansRow.holds Tryz.pinned (OpenSpec.ofChange fuseCansWrong)

/-- 'hachurelaw13.FuseLongest': WHATEVER THE INPUT: true; the input reads as it did. -/
def fuseLongestSpec : ChangeSpec := { name := "fuseLongest", fn := fun _ => fun
  | [d] => { results := [.lit (.bool true)], args := [d] }
  | _ => none }
def fuseLongestRow : OpenClaim := { program := "ytinmckmdbepjcaagreat", sum := "4fd235683b8666700bca92eab91e13ed261547dcac8adff323471466830968b4", func := "hachure/hachurelaw13.FuseLongest", spec := "fuseLongest", inPlace := ["math.sqrt"], unfollowed := true, recurses := true, apart := false }
def FuseLongestSaid : Prop := fuseLongestRow.holds Tryz.pinned (OpenSpec.ofChange fuseLongestSpec)

/-- ITS FALSE NEIGHBOUR: 'it returns false'. Refute it at one input. -/
def fuseLongestWrong : ChangeSpec := { name := "fuseLongest", fn := fun _ => fun
  | [d] => { results := [.lit (.bool false)], args := [d] }
  | _ => none }
def FuseLongestWrongFalsely : Prop := fuseLongestRow.holds Tryz.pinned (OpenSpec.ofChange fuseLongestWrong)

/- THE SECOND FORM. 'bulk': how many values and letters a reading holds, each counted each time it is reached (what is shared counts as often as it is met; a slice's spare places count too). A statement '..UptoSaid' is the law's where the arguments, and the package variables that the reading takes, are together of bulk at most 1048576: NARROWER than '..Said'. Prove '..Said' where nothing that the law and all that it calls make is longer than what came in: it says more and counts as full. Else prove '..UptoSaid'. A law counts once. -/
mutual
def uptoBulk {H : Type} : DataW H → Nat
  | .lit (.string bytes) => bytes.length + 1
  | .lit _ => 1
  | .nil => 1
  | .ptr d => uptoBulk d + 1
  | .slice elems spare => uptoBulkAll elems + uptoBulkAll spare + 1
  | .agg parts => uptoBulkAll parts + 1
  | .iface _ d => uptoBulk d + 1
  | .map entries => uptoBulkEntries entries + 1
  | .held _ => 1
def uptoBulkAll {H : Type} : List (DataW H) → Nat
  | [] => 0
  | d :: r => uptoBulk d + uptoBulkAll r
def uptoBulkEntries {H : Type} : List (Lit × DataW H) → Nat
  | [] => 0
  | x :: r => uptoBulkEntry x + uptoBulkEntries r
def uptoBulkEntry {H : Type} : Lit × DataW H → Nat
  | (.string bytes, d) => bytes.length + uptoBulk d + 1
  | (_, d) => uptoBulk d + 1
 end
def uptoSmall : (H : Type) → List (DataW H) → Bool := fun _ ds => decide (uptoBulkAll ds ≤ 1048576)
def OpenSpec.upto (s : _root_.Go.ChangeSpec) : _root_.Go.OpenSpec := { _root_.Go.OpenSpec.ofChange s with cond := some uptoSmall }

/-- 'hachurelaw13.FuseApplies', WHERE WHAT IT READS IS OF BULK AT MOST 1048576: true; the input reads as it did. -/
def fuseAppliesUptoRow : OpenClaim := { program := "ytinmckmdbepjcaagreat", sum := "4fd235683b8666700bca92eab91e13ed261547dcac8adff323471466830968b4", func := "hachure/hachurelaw13.FuseApplies", spec := "fuseApplies", inPlace := ["math.sqrt"], unfollowed := true, recurses := true, apart := false, narrowed := true }
def FuseAppliesUptoSaid : Prop := fuseAppliesUptoRow.holds Tryz.pinned (OpenSpec.upto fuseAppliesSpec)

/-- 'hachurelaw13.FuseCans', WHERE WHAT IT READS IS OF BULK AT MOST 1048576: true; the input reads as it did. -/
def fuseCansUptoRow : OpenClaim := { program := "ytinmckmdbepjcaagreat", sum := "4fd235683b8666700bca92eab91e13ed261547dcac8adff323471466830968b4", func := "hachure/hachurelaw13.FuseCans", spec := "fuseCans", inPlace := ["math.sqrt"], unfollowed := true, recurses := true, apart := false, narrowed := true }
def FuseCansUptoSaid : Prop := fuseCansUptoRow.holds Tryz.pinned (OpenSpec.upto fuseCansSpec)

/-- 'hachurelaw13.FuseLongest', WHERE WHAT IT READS IS OF BULK AT MOST 1048576: true; the input reads as it did. -/
def fuseLongestUptoRow : OpenClaim := { program := "ytinmckmdbepjcaagreat", sum := "4fd235683b8666700bca92eab91e13ed261547dcac8adff323471466830968b4", func := "hachure/hachurelaw13.FuseLongest", spec := "fuseLongest", inPlace := ["math.sqrt"], unfollowed := true, recurses := true, apart := false, narrowed := true }
def FuseLongestUptoSaid : Prop := fuseLongestUptoRow.holds Tryz.pinned (OpenSpec.upto fuseLongestSpec)

end Rows
end Go.Proofs.YtinmckmdbepjcaaGreat
