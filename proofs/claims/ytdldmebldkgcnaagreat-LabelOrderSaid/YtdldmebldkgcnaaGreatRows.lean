/-
  No cell of these rows narrows 'for every input' (looked for: loops, veiled, ifaces, maps, wideKeys, modest, calm, conditions, laid).
  DERIVED. THE GIVEN ROWS OF THIS SEAT. 4 by the template 'for every input the law returns true; each argument reads behind the call as it read before'; 0 by the template 'total and deterministic' (their statements: YtdldmebldkgcnaaGreatTotals.lean).
  GIVEN WITH THE SEED: the statements are not yours to turn. If you find one false, say at which input.
  Laid BY PROGRAM, IN A SANDBOX (cutbox-rows.mjs): the forced cells as the released guide's own fill.sh prints them over the translation d493ffca2689140f… (all of the seat's roots in one cut). By AI agents, Wed Nov 11 2026. No macro, syntax, notation, axiom, sorry.
-/
import Derived.Test.YtdldmebldkgcnaaGreatChecked
import GoSem.Claim
import GoSem.ClaimJoined
import GoSem.ClaimMapViews
import Derived.JoinedTies
import Derived.KernelRfl
namespace Go.Proofs.YtdldmebldkgcnaaGreat
/- THE CELL 'sum', in the pinned program and in every row, IS THE sha256 OF THE DUMP (.gsa) THAT YtdldmebldkgcnaaGreatProg.lean LOADS. Nothing in Lean hashes anything: it is a label: what it is worth is what the hold of that sum in a sandbox is worth. -/
noncomputable def Tryz.pinned : Pinned := { name := "ytdldmebldkgcnaagreat", sum := "d493ffca2689140f3cfbe3f002add05d09a12d7b10090a63640d2bb22c9b2d5c", checked := Tryz.checked }
namespace Rows
def none {H : Type} : Left H := { results := [], args := [] }

/-- 'hachurelaw23.LabelApart': WHATEVER THE INPUT: true; the input reads as it did. -/
def labelApartSpec : ChangeSpec := { name := "labelApart", fn := fun _ => fun
  | [d1, d2] => { results := [.lit (.bool true)], args := [d1, d2] }
  | _ => none }
def labelApartRow : OpenClaim := { program := "ytdldmebldkgcnaagreat", sum := "d493ffca2689140f3cfbe3f002add05d09a12d7b10090a63640d2bb22c9b2d5c", func := "hachure/hachurelaw23.LabelApart", spec := "labelApart", inPlace := ["math.sqrt"], unfollowed := true, recurses := true, plainKeys := false, apart := false }
def LabelApartSaid : Prop := labelApartRow.holds Tryz.pinned (OpenSpec.ofChange labelApartSpec)

/-- ITS FALSE NEIGHBOUR: 'it returns false'. Refute it at one input. -/
def labelApartWrong : ChangeSpec := { name := "labelApart", fn := fun _ => fun
  | [d1, d2] => { results := [.lit (.bool false)], args := [d1, d2] }
  | _ => none }
def LabelApartWrongFalsely : Prop := labelApartRow.holds Tryz.pinned (OpenSpec.ofChange labelApartWrong)

/-- 'hachurelaw23.LabelCalm': WHATEVER THE INPUT: true; the input reads as it did. -/
def labelCalmSpec : ChangeSpec := { name := "labelCalm", fn := fun _ => fun
  | [d1, d2, d3] => { results := [.lit (.bool true)], args := [d1, d2, d3] }
  | _ => none }
def labelCalmRow : OpenClaim := { program := "ytdldmebldkgcnaagreat", sum := "d493ffca2689140f3cfbe3f002add05d09a12d7b10090a63640d2bb22c9b2d5c", func := "hachure/hachurelaw23.LabelCalm", spec := "labelCalm", inPlace := ["math.sqrt"], unfollowed := true, recurses := true, plainKeys := false, apart := false }
def LabelCalmSaid : Prop := labelCalmRow.holds Tryz.pinned (OpenSpec.ofChange labelCalmSpec)

/-- ITS FALSE NEIGHBOUR: 'it returns false'. Refute it at one input. -/
def labelCalmWrong : ChangeSpec := { name := "labelCalm", fn := fun _ => fun
  | [d1, d2, d3] => { results := [.lit (.bool false)], args := [d1, d2, d3] }
  | _ => none }
def LabelCalmWrongFalsely : Prop := labelCalmRow.holds Tryz.pinned (OpenSpec.ofChange labelCalmWrong)

/-- 'hachurelaw23.LabelLongest': WHATEVER THE INPUT: true; the input reads as it did. -/
def labelLongestSpec : ChangeSpec := { name := "labelLongest", fn := fun _ => fun
  | [d] => { results := [.lit (.bool true)], args := [d] }
  | _ => none }
def labelLongestRow : OpenClaim := { program := "ytdldmebldkgcnaagreat", sum := "d493ffca2689140f3cfbe3f002add05d09a12d7b10090a63640d2bb22c9b2d5c", func := "hachure/hachurelaw23.LabelLongest", spec := "labelLongest", inPlace := ["math.sqrt"], unfollowed := true, recurses := true, plainKeys := false, apart := false }
def LabelLongestSaid : Prop := labelLongestRow.holds Tryz.pinned (OpenSpec.ofChange labelLongestSpec)

/-- ITS FALSE NEIGHBOUR: 'it returns false'. Refute it at one input. -/
def labelLongestWrong : ChangeSpec := { name := "labelLongest", fn := fun _ => fun
  | [d] => { results := [.lit (.bool false)], args := [d] }
  | _ => none }
def LabelLongestWrongFalsely : Prop := labelLongestRow.holds Tryz.pinned (OpenSpec.ofChange labelLongestWrong)

/-- 'hachurelaw23.LabelOrder': WHATEVER THE INPUT: true; the input reads as it did. -/
def labelOrderSpec : ChangeSpec := { name := "labelOrder", fn := fun _ => fun
  | [d1, d2] => { results := [.lit (.bool true)], args := [d1, d2] }
  | _ => none }
def labelOrderRow : OpenClaim := { program := "ytdldmebldkgcnaagreat", sum := "d493ffca2689140f3cfbe3f002add05d09a12d7b10090a63640d2bb22c9b2d5c", func := "hachure/hachurelaw23.LabelOrder", spec := "labelOrder", inPlace := ["math.sqrt"], unfollowed := true, recurses := true, plainKeys := false, apart := false }
def LabelOrderSaid : Prop := labelOrderRow.holds Tryz.pinned (OpenSpec.ofChange labelOrderSpec)

/-- ITS FALSE NEIGHBOUR: 'it returns false'. Refute it at one input. -/
def labelOrderWrong : ChangeSpec := { name := "labelOrder", fn := fun _ => fun
  | [d1, d2] => { results := [.lit (.bool false)], args := [d1, d2] }
  | _ => none }
def LabelOrderWrongFalsely : Prop := labelOrderRow.holds Tryz.pinned (OpenSpec.ofChange labelOrderWrong)

/- THE SECOND FORM. 'bulk': how many values and letters a reading holds, each counted each time it is reached (what is shared counts as often as it is met; a slice's spare places count too). A statement '..UptoSaid' is the law's where the arguments, and the package variables that the reading takes, are together of bulk at most 1048576: NARROWER than '..Said'. Prove '..Said' where nothing that the law and all that it calls make is longer than what came in: it says more and counts as full. Else prove '..UptoSaid'. A law counts once. -/
mutual
def uptoBulk {H : Type} : DataW H → Nat
  | .lit (.string bytes) => bytes.length + 1
  | .lit _ => 1
  | .nil => 1
  | .ptr d => uptoBulk d + 1
  | .slice elems spare => uptoBulkAll elems + uptoBulkAll spare + 1
  | .agg parts => uptoBulkAll parts + 1
  | .iface _ d => uptoBulk d + 1
  | .map entries => uptoBulkEntries entries + 1
  | .held _ => 1
def uptoBulkAll {H : Type} : List (DataW H) → Nat
  | [] => 0
  | d :: r => uptoBulk d + uptoBulkAll r
def uptoBulkEntries {H : Type} : List (Lit × DataW H) → Nat
  | [] => 0
  | x :: r => uptoBulkEntry x + uptoBulkEntries r
def uptoBulkEntry {H : Type} : Lit × DataW H → Nat
  | (.string bytes, d) => bytes.length + uptoBulk d + 1
  | (_, d) => uptoBulk d + 1
 end
def uptoSmall : (H : Type) → List (DataW H) → Bool := fun _ ds => decide (uptoBulkAll ds ≤ 1048576)
def OpenSpec.upto (s : _root_.Go.ChangeSpec) : _root_.Go.OpenSpec := { _root_.Go.OpenSpec.ofChange s with cond := some uptoSmall }

/-- 'hachurelaw23.LabelApart', WHERE WHAT IT READS IS OF BULK AT MOST 1048576: true; the input reads as it did. -/
def labelApartUptoRow : OpenClaim := { program := "ytdldmebldkgcnaagreat", sum := "d493ffca2689140f3cfbe3f002add05d09a12d7b10090a63640d2bb22c9b2d5c", func := "hachure/hachurelaw23.LabelApart", spec := "labelApart", inPlace := ["math.sqrt"], unfollowed := true, recurses := true, plainKeys := false, apart := false, narrowed := true }
def LabelApartUptoSaid : Prop := labelApartUptoRow.holds Tryz.pinned (OpenSpec.upto labelApartSpec)

/-- 'hachurelaw23.LabelCalm', WHERE WHAT IT READS IS OF BULK AT MOST 1048576: true; the input reads as it did. -/
def labelCalmUptoRow : OpenClaim := { program := "ytdldmebldkgcnaagreat", sum := "d493ffca2689140f3cfbe3f002add05d09a12d7b10090a63640d2bb22c9b2d5c", func := "hachure/hachurelaw23.LabelCalm", spec := "labelCalm", inPlace := ["math.sqrt"], unfollowed := true, recurses := true, plainKeys := false, apart := false, narrowed := true }
def LabelCalmUptoSaid : Prop := labelCalmUptoRow.holds Tryz.pinned (OpenSpec.upto labelCalmSpec)

/-- 'hachurelaw23.LabelLongest', WHERE WHAT IT READS IS OF BULK AT MOST 1048576: true; the input reads as it did. -/
def labelLongestUptoRow : OpenClaim := { program := "ytdldmebldkgcnaagreat", sum := "d493ffca2689140f3cfbe3f002add05d09a12d7b10090a63640d2bb22c9b2d5c", func := "hachure/hachurelaw23.LabelLongest", spec := "labelLongest", inPlace := ["math.sqrt"], unfollowed := true, recurses := true, plainKeys := false, apart := false, narrowed := true }
def LabelLongestUptoSaid : Prop := labelLongestUptoRow.holds Tryz.pinned (OpenSpec.upto labelLongestSpec)

/-- 'hachurelaw23.LabelOrder', WHERE WHAT IT READS IS OF BULK AT MOST 1048576: true; the input reads as it did. -/
def labelOrderUptoRow : OpenClaim := { program := "ytdldmebldkgcnaagreat", sum := "d493ffca2689140f3cfbe3f002add05d09a12d7b10090a63640d2bb22c9b2d5c", func := "hachure/hachurelaw23.LabelOrder", spec := "labelOrder", inPlace := ["math.sqrt"], unfollowed := true, recurses := true, plainKeys := false, apart := false, narrowed := true }
def LabelOrderUptoSaid : Prop := labelOrderUptoRow.holds Tryz.pinned (OpenSpec.upto labelOrderSpec)

end Rows
end Go.Proofs.YtdldmebldkgcnaaGreat
