/-
  A seat's tables. Own work.
-/
import Derived.Test.YtnjbmkcbhnkggaaAmSim
namespace Go.AM

def fnOf (tab : List (Nat × AFunc)) (f : Nat) : Option AFunc := (tab.find? (·.1 == f)).map (·.2)
def extOf (tab : List (Nat × (List V → Option Res))) (f : Nat) (as : List V) : Option Res := match tab.find? (·.1 == f) with
  | some p => p.2 as
  | none => none
end Go.AM
