/-
  No cell of these rows narrows 'for every input' (looked for: loops, veiled, ifaces, maps, wideKeys, modest, calm, conditions, laid).
  DERIVED. THE GIVEN ROWS OF THIS SEAT. 4 by the template 'for every input the law returns true; each argument reads behind the call as it read before'; 0 by the template 'total and deterministic' (their statements: YtdifmldbllaeiaaGreatTotals.lean).
  GIVEN WITH THE SEED: the statements are not yours to turn. If you find one false, say at which input.
  Laid BY PROGRAM, IN A SANDBOX (cutbox-rows.mjs): the forced cells as the released guide's own fill.sh prints them over the translation a5443173a7fee072… (all of the seat's roots in one cut). By AI agents, Wed Nov 11 2026. No macro, syntax, notation, axiom, sorry.
-/
import Derived.Test.YtdifmldbllaeiaaGreatChecked
import GoSem.Claim
import GoSem.ClaimJoined
import GoSem.ClaimMapViews
import Derived.JoinedTies
import Derived.KernelRfl
namespace Go.Proofs.YtdifmldbllaeiaaGreat
/- THE CELL 'sum', in the pinned program and in every row, IS THE sha256 OF THE DUMP (.gsa) THAT YtdifmldbllaeiaaGreatProg.lean LOADS. Nothing in Lean hashes anything: it is a label: what it is worth is what the hold of that sum in a sandbox is worth. -/
noncomputable def Tryz.pinned : Pinned := { name := "ytdifmldbllaeiaagreat", sum := "a5443173a7fee07251314ff0e1cc8632ad7b5b558d979923b8719155755c5579", checked := Tryz.checked }
namespace Rows
def none {H : Type} : Left H := { results := [], args := [] }

/-- 'hachurelaw17.HistoryNames': WHATEVER THE INPUT: true; the input reads as it did. -/
def historyNamesSpec : ChangeSpec := { name := "historyNames", fn := fun _ => fun
  | [d1, d2] => { results := [.lit (.bool true)], args := [d1, d2] }
  | _ => none }
def historyNamesRow : OpenClaim := { program := "ytdifmldbllaeiaagreat", sum := "a5443173a7fee07251314ff0e1cc8632ad7b5b558d979923b8719155755c5579", func := "hachure/hachurelaw17.HistoryNames", spec := "historyNames", inPlace := ["math.sqrt"], unfollowed := true, recurses := true, plainKeys := false, apart := false }
def HistoryNamesSaid : Prop := historyNamesRow.holds Tryz.pinned (OpenSpec.ofChange historyNamesSpec)

/-- ITS FALSE NEIGHBOUR: 'it returns false'. Refute it at one input. -/
def historyNamesWrong : ChangeSpec := { name := "historyNames", fn := fun _ => fun
  | [d1, d2] => { results := [.lit (.bool false)], args := [d1, d2] }
  | _ => none }
def HistoryNamesWrongFalsely : Prop := historyNamesRow.holds Tryz.pinned (OpenSpec.ofChange historyNamesWrong)

/-- 'hachurelaw17.HistoryConnected': WHATEVER THE INPUT: true; the input reads as it did. -/
def historyConnectedSpec : ChangeSpec := { name := "historyConnected", fn := fun _ => fun
  | [d1, d2] => { results := [.lit (.bool true)], args := [d1, d2] }
  | _ => none }
def historyConnectedRow : OpenClaim := { program := "ytdifmldbllaeiaagreat", sum := "a5443173a7fee07251314ff0e1cc8632ad7b5b558d979923b8719155755c5579", func := "hachure/hachurelaw17.HistoryConnected", spec := "historyConnected", inPlace := ["math.sqrt"], unfollowed := true, recurses := true, plainKeys := false, apart := false }
def HistoryConnectedSaid : Prop := historyConnectedRow.holds Tryz.pinned (OpenSpec.ofChange historyConnectedSpec)

/-- ITS FALSE NEIGHBOUR: 'it returns false'. Refute it at one input. -/
def historyConnectedWrong : ChangeSpec := { name := "historyConnected", fn := fun _ => fun
  | [d1, d2] => { results := [.lit (.bool false)], args := [d1, d2] }
  | _ => none }
def HistoryConnectedWrongFalsely : Prop := historyConnectedRow.holds Tryz.pinned (OpenSpec.ofChange historyConnectedWrong)

/-- 'hachurelaw17.HistoryCheapest': WHATEVER THE INPUT: true; the input reads as it did. -/
def historyCheapestSpec : ChangeSpec := { name := "historyCheapest", fn := fun _ => fun
  | [d] => { results := [.lit (.bool true)], args := [d] }
  | _ => none }
def historyCheapestRow : OpenClaim := { program := "ytdifmldbllaeiaagreat", sum := "a5443173a7fee07251314ff0e1cc8632ad7b5b558d979923b8719155755c5579", func := "hachure/hachurelaw17.HistoryCheapest", spec := "historyCheapest", inPlace := ["math.sqrt"], unfollowed := true, recurses := true, plainKeys := false, apart := false }
def HistoryCheapestSaid : Prop := historyCheapestRow.holds Tryz.pinned (OpenSpec.ofChange historyCheapestSpec)

/-- ITS FALSE NEIGHBOUR: 'it returns false'. Refute it at one input. -/
def historyCheapestWrong : ChangeSpec := { name := "historyCheapest", fn := fun _ => fun
  | [d] => { results := [.lit (.bool false)], args := [d] }
  | _ => none }
def HistoryCheapestWrongFalsely : Prop := historyCheapestRow.holds Tryz.pinned (OpenSpec.ofChange historyCheapestWrong)

/-- 'hachurelaw17.HistoryDistricts': WHATEVER THE INPUT: true; the input reads as it did. -/
def historyDistrictsSpec : ChangeSpec := { name := "historyDistricts", fn := fun _ => fun
  | [d1, d2] => { results := [.lit (.bool true)], args := [d1, d2] }
  | _ => none }
def historyDistrictsRow : OpenClaim := { program := "ytdifmldbllaeiaagreat", sum := "a5443173a7fee07251314ff0e1cc8632ad7b5b558d979923b8719155755c5579", func := "hachure/hachurelaw17.HistoryDistricts", spec := "historyDistricts", inPlace := ["math.sqrt"], unfollowed := true, recurses := true, plainKeys := false, apart := false }
def HistoryDistrictsSaid : Prop := historyDistrictsRow.holds Tryz.pinned (OpenSpec.ofChange historyDistrictsSpec)

/-- ITS FALSE NEIGHBOUR: 'it returns false'. Refute it at one input. -/
def historyDistrictsWrong : ChangeSpec := { name := "historyDistricts", fn := fun _ => fun
  | [d1, d2] => { results := [.lit (.bool false)], args := [d1, d2] }
  | _ => none }
def HistoryDistrictsWrongFalsely : Prop := historyDistrictsRow.holds Tryz.pinned (OpenSpec.ofChange historyDistrictsWrong)

/- THE SECOND FORM. 'bulk': how many values and letters a reading holds, each counted each time it is reached (what is shared counts as often as it is met; a slice's spare places count too). A statement '..UptoSaid' is the law's where the arguments, and the package variables that the reading takes, are together of bulk at most 1048576: NARROWER than '..Said'. Prove '..Said' where nothing that the law and all that it calls make is longer than what came in: it says more and counts as full. Else prove '..UptoSaid'. A law counts once. -/
mutual
def uptoBulk {H : Type} : DataW H → Nat
  | .lit (.string bytes) => bytes.length + 1
  | .lit _ => 1
  | .nil => 1
  | .ptr d => uptoBulk d + 1
  | .slice elems spare => uptoBulkAll elems + uptoBulkAll spare + 1
  | .agg parts => uptoBulkAll parts + 1
  | .iface _ d => uptoBulk d + 1
  | .map entries => uptoBulkEntries entries + 1
  | .held _ => 1
def uptoBulkAll {H : Type} : List (DataW H) → Nat
  | [] => 0
  | d :: r => uptoBulk d + uptoBulkAll r
def uptoBulkEntries {H : Type} : List (Lit × DataW H) → Nat
  | [] => 0
  | x :: r => uptoBulkEntry x + uptoBulkEntries r
def uptoBulkEntry {H : Type} : Lit × DataW H → Nat
  | (.string bytes, d) => bytes.length + uptoBulk d + 1
  | (_, d) => uptoBulk d + 1
 end
def uptoSmall : (H : Type) → List (DataW H) → Bool := fun _ ds => decide (uptoBulkAll ds ≤ 1048576)
def OpenSpec.upto (s : _root_.Go.ChangeSpec) : _root_.Go.OpenSpec := { _root_.Go.OpenSpec.ofChange s with cond := some uptoSmall }

/-- 'hachurelaw17.HistoryNames', WHERE WHAT IT READS IS OF BULK AT MOST 1048576: true; the input reads as it did. -/
def historyNamesUptoRow : OpenClaim := { program := "ytdifmldbllaeiaagreat", sum := "a5443173a7fee07251314ff0e1cc8632ad7b5b558d979923b8719155755c5579", func := "hachure/hachurelaw17.HistoryNames", spec := "historyNames", inPlace := ["math.sqrt"], unfollowed := true, recurses := true, plainKeys := false, apart := false, narrowed := true }
def HistoryNamesUptoSaid : Prop := historyNamesUptoRow.holds Tryz.pinned (OpenSpec.upto historyNamesSpec)

/-- 'hachurelaw17.HistoryConnected', WHERE WHAT IT READS IS OF BULK AT MOST 1048576: true; the input reads as it did. -/
def historyConnectedUptoRow : OpenClaim := { program := "ytdifmldbllaeiaagreat", sum := "a5443173a7fee07251314ff0e1cc8632ad7b5b558d979923b8719155755c5579", func := "hachure/hachurelaw17.HistoryConnected", spec := "historyConnected", inPlace := ["math.sqrt"], unfollowed := true, recurses := true, plainKeys := false, apart := false, narrowed := true }
def HistoryConnectedUptoSaid : Prop := historyConnectedUptoRow.holds Tryz.pinned (OpenSpec.upto historyConnectedSpec)

/-- 'hachurelaw17.HistoryCheapest', WHERE WHAT IT READS IS OF BULK AT MOST 1048576: true; the input reads as it did. -/
def historyCheapestUptoRow : OpenClaim := { program := "ytdifmldbllaeiaagreat", sum := "a5443173a7fee07251314ff0e1cc8632ad7b5b558d979923b8719155755c5579", func := "hachure/hachurelaw17.HistoryCheapest", spec := "historyCheapest", inPlace := ["math.sqrt"], unfollowed := true, recurses := true, plainKeys := false, apart := false, narrowed := true }
def HistoryCheapestUptoSaid : Prop := historyCheapestUptoRow.holds Tryz.pinned (OpenSpec.upto historyCheapestSpec)

/-- 'hachurelaw17.HistoryDistricts', WHERE WHAT IT READS IS OF BULK AT MOST 1048576: true; the input reads as it did. -/
def historyDistrictsUptoRow : OpenClaim := { program := "ytdifmldbllaeiaagreat", sum := "a5443173a7fee07251314ff0e1cc8632ad7b5b558d979923b8719155755c5579", func := "hachure/hachurelaw17.HistoryDistricts", spec := "historyDistricts", inPlace := ["math.sqrt"], unfollowed := true, recurses := true, plainKeys := false, apart := false, narrowed := true }
def HistoryDistrictsUptoSaid : Prop := historyDistrictsUptoRow.holds Tryz.pinned (OpenSpec.upto historyDistrictsSpec)

end Rows
end Go.Proofs.YtdifmldbllaeiaaGreat
