/-
  No cell of these rows narrows 'for every input' (looked for: loops, veiled, ifaces, maps, wideKeys, modest, calm, conditions, laid).
  DERIVED. THE GIVEN ROWS OF THIS SEAT. 3 by the template 'for every input the law returns true; each argument reads behind the call as it read before'; 0 by the template 'total and deterministic' (their statements: YtkdfnbahehdhmaaGreatTotals.lean).
  GIVEN WITH THE SEED: the statements are not yours to turn. If you find one false, say at which input.
  Laid BY PROGRAM, IN A SANDBOX (cutbox-rows.mjs): the forced cells as the released guide's own fill.sh prints them over the translation 832ae25dcb30662e… (all of the seat's roots in one cut). By AI agents, Wed Nov 11 2026. No macro, syntax, notation, axiom, sorry.
-/
import Derived.Test.YtkdfnbahehdhmaaGreatChecked
import GoSem.Claim
import GoSem.ClaimJoined
import GoSem.ClaimMapViews
import Derived.JoinedTies
import Derived.KernelRfl
namespace Go.Proofs.YtkdfnbahehdhmaaGreat
/- THE CELL 'sum', in the pinned program and in every row, IS THE sha256 OF THE DUMP (.gsa) THAT YtkdfnbahehdhmaaGreatProg.lean LOADS. Nothing in Lean hashes anything: it is a label: what it is worth is what the hold of that sum in a sandbox is worth. -/
noncomputable def Tryz.pinned : Pinned := { name := "ytkdfnbahehdhmaagreat", sum := "832ae25dcb30662e7a70cc301c064cb47e0b29521abf01eb5a489029162965b0", checked := Tryz.checked }
namespace Rows
def none {H : Type} : Left H := { results := [], args := [] }

/-- 'hachurelaw12.DropCan': WHATEVER THE INPUT: true; the input reads as it did. -/
def dropCanSpec : ChangeSpec := { name := "dropCan", fn := fun _ => fun
  | [d1, d2, d3] => { results := [.lit (.bool true)], args := [d1, d2, d3] }
  | _ => none }
def dropCanRow : OpenClaim := { program := "ytkdfnbahehdhmaagreat", sum := "832ae25dcb30662e7a70cc301c064cb47e0b29521abf01eb5a489029162965b0", func := "hachure/hachurelaw12.DropCan", spec := "dropCan", inPlace := ["math.sqrt"], unfollowed := true, recurses := true, apart := false }
def DropCanSaid : Prop := dropCanRow.holds Tryz.pinned (OpenSpec.ofChange dropCanSpec)

/-- ITS FALSE NEIGHBOUR: 'it returns false'. Refute it at one input. -/
def dropCanWrong : ChangeSpec := { name := "dropCan", fn := fun _ => fun
  | [d1, d2, d3] => { results := [.lit (.bool false)], args := [d1, d2, d3] }
  | _ => none }
def DropCanWrongFalsely : Prop := dropCanRow.holds Tryz.pinned (OpenSpec.ofChange dropCanWrong)

/-- 'hachurelaw12.DropAll': WHATEVER THE INPUT: true; the input reads as it did. -/
def dropAllSpec : ChangeSpec := { name := "dropAll", fn := fun _ => fun
  | [d1, d2, d3] => { results := [.lit (.bool true)], args := [d1, d2, d3] }
  | _ => none }
def dropAllRow : OpenClaim := { program := "ytkdfnbahehdhmaagreat", sum := "832ae25dcb30662e7a70cc301c064cb47e0b29521abf01eb5a489029162965b0", func := "hachure/hachurelaw12.DropAll", spec := "dropAll", inPlace := ["math.sqrt"], unfollowed := true, recurses := true, apart := false }
def DropAllSaid : Prop := dropAllRow.holds Tryz.pinned (OpenSpec.ofChange dropAllSpec)

/-- ITS FALSE NEIGHBOUR: 'it returns false'. Refute it at one input. -/
def dropAllWrong : ChangeSpec := { name := "dropAll", fn := fun _ => fun
  | [d1, d2, d3] => { results := [.lit (.bool false)], args := [d1, d2, d3] }
  | _ => none }
def DropAllWrongFalsely : Prop := dropAllRow.holds Tryz.pinned (OpenSpec.ofChange dropAllWrong)

/-- 'hachurelaw12.DropAreas': WHATEVER THE INPUT: true; the input reads as it did. -/
def dropAreasSpec : ChangeSpec := { name := "dropAreas", fn := fun _ => fun
  | [d1, d2] => { results := [.lit (.bool true)], args := [d1, d2] }
  | _ => none }
def dropAreasRow : OpenClaim := { program := "ytkdfnbahehdhmaagreat", sum := "832ae25dcb30662e7a70cc301c064cb47e0b29521abf01eb5a489029162965b0", func := "hachure/hachurelaw12.DropAreas", spec := "dropAreas", inPlace := ["math.sqrt"], unfollowed := true, recurses := true, apart := false }
def DropAreasSaid : Prop := dropAreasRow.holds Tryz.pinned (OpenSpec.ofChange dropAreasSpec)

/-- ITS FALSE NEIGHBOUR: 'it returns false'. Refute it at one input. -/
def dropAreasWrong : ChangeSpec := { name := "dropAreas", fn := fun _ => fun
  | [d1, d2] => { results := [.lit (.bool false)], args := [d1, d2] }
  | _ => none }
def DropAreasWrongFalsely : Prop := dropAreasRow.holds Tryz.pinned (OpenSpec.ofChange dropAreasWrong)

/- THE SECOND FORM. 'bulk': how many values and letters a reading holds, each counted each time it is reached (what is shared counts as often as it is met; a slice's spare places count too). A statement '..UptoSaid' is the law's where the arguments, and the package variables that the reading takes, are together of bulk at most 1048576: NARROWER than '..Said'. Prove '..Said' where nothing that the law and all that it calls make is longer than what came in: it says more and counts as full. Else prove '..UptoSaid'. A law counts once. -/
mutual
def uptoBulk {H : Type} : DataW H → Nat
  | .lit (.string bytes) => bytes.length + 1
  | .lit _ => 1
  | .nil => 1
  | .ptr d => uptoBulk d + 1
  | .slice elems spare => uptoBulkAll elems + uptoBulkAll spare + 1
  | .agg parts => uptoBulkAll parts + 1
  | .iface _ d => uptoBulk d + 1
  | .map entries => uptoBulkEntries entries + 1
  | .held _ => 1
def uptoBulkAll {H : Type} : List (DataW H) → Nat
  | [] => 0
  | d :: r => uptoBulk d + uptoBulkAll r
def uptoBulkEntries {H : Type} : List (Lit × DataW H) → Nat
  | [] => 0
  | x :: r => uptoBulkEntry x + uptoBulkEntries r
def uptoBulkEntry {H : Type} : Lit × DataW H → Nat
  | (.string bytes, d) => bytes.length + uptoBulk d + 1
  | (_, d) => uptoBulk d + 1
 end
def uptoSmall : (H : Type) → List (DataW H) → Bool := fun _ ds => decide (uptoBulkAll ds ≤ 1048576)
def OpenSpec.upto (s : _root_.Go.ChangeSpec) : _root_.Go.OpenSpec := { _root_.Go.OpenSpec.ofChange s with cond := some uptoSmall }

/-- 'hachurelaw12.DropCan', WHERE WHAT IT READS IS OF BULK AT MOST 1048576: true; the input reads as it did. -/
def dropCanUptoRow : OpenClaim := { program := "ytkdfnbahehdhmaagreat", sum := "832ae25dcb30662e7a70cc301c064cb47e0b29521abf01eb5a489029162965b0", func := "hachure/hachurelaw12.DropCan", spec := "dropCan", inPlace := ["math.sqrt"], unfollowed := true, recurses := true, apart := false, narrowed := true }
def DropCanUptoSaid : Prop := dropCanUptoRow.holds Tryz.pinned (OpenSpec.upto dropCanSpec)

/-- 'hachurelaw12.DropAll', WHERE WHAT IT READS IS OF BULK AT MOST 1048576: true; the input reads as it did. -/
def dropAllUptoRow : OpenClaim := { program := "ytkdfnbahehdhmaagreat", sum := "832ae25dcb30662e7a70cc301c064cb47e0b29521abf01eb5a489029162965b0", func := "hachure/hachurelaw12.DropAll", spec := "dropAll", inPlace := ["math.sqrt"], unfollowed := true, recurses := true, apart := false, narrowed := true }
def DropAllUptoSaid : Prop := dropAllUptoRow.holds Tryz.pinned (OpenSpec.upto dropAllSpec)

/-- 'hachurelaw12.DropAreas', WHERE WHAT IT READS IS OF BULK AT MOST 1048576: true; the input reads as it did. -/
def dropAreasUptoRow : OpenClaim := { program := "ytkdfnbahehdhmaagreat", sum := "832ae25dcb30662e7a70cc301c064cb47e0b29521abf01eb5a489029162965b0", func := "hachure/hachurelaw12.DropAreas", spec := "dropAreas", inPlace := ["math.sqrt"], unfollowed := true, recurses := true, apart := false, narrowed := true }
def DropAreasUptoSaid : Prop := dropAreasUptoRow.holds Tryz.pinned (OpenSpec.upto dropAreasSpec)

end Rows
end Go.Proofs.YtkdfnbahehdhmaaGreat
