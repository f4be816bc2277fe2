/-
  Texts of the proof, joined by program: PFacA, PFacB. Own work.
-/
import Derived.Test.YtjmcpijpclfakaaGc
set_option linter.unusedSimpArgs false
set_option linter.unusedVariables false
set_option maxRecDepth 20000
namespace Go.AM
def foldLo (v : Int) (l : List Kno) (a : Int) : Int := l.foldl (fun a k => if k.var = v then imax a k.lo else a) a
def foldHi (v : Int) (l : List Kno) (a : Int) : Int := l.foldl (fun a k => if k.var = v then imin a k.hi else a) a
def fromV (v : Int) : Int := if varT v = 2 then 0 else -1073741824
def toV (v : Int) : Int := if varT v = 2 then 1 else 1073741824
def rngB (v : Int) (l : List Kno) : Bd := if foldHi v l (toV v) < foldLo v l (fromV v) then nb (fromV v) (toV v) else nb (foldLo v l (fromV v)) (foldHi v l (toV v))
def common (own : List Kno) (s : Str) : Bool := own.all fun k => decide (s ∈ k.texts)
def textsW : List Kno → List Str
  | [] => []
  | k :: own => union [] (k.texts.filter (common (k :: own)))
def textsB (own : List Kno) : Bd := ⟨0, 0, true, textsW own, !(textsW own).isEmpty, true⟩
def ownOf (v : Int) (l : List Kno) : List Kno := l.filter fun k => decide (k.var = v)
def factB (l : List Kno) (v : Int) : Bd := if varT v = 3 then textsB (ownOf v l) else rngB v l
theorem Kno.form4 (k : Kno) : ∃ t, k.v = .agg [vi k.var, vi k.lo, vi k.hi, t] ∧ IsS 1 (k.texts.map V.str) t := ⟨_, rfl, slS_is ..⟩
end Go.AM
set_option maxRecDepth 20000
namespace Go.AM
structure KFit (l : List Kno) : Prop where
  len : l.length < 1000
  tx : ∀ k ∈ l, k.texts.length < 1000
  str : ∀ k ∈ l, ∀ s ∈ k.texts, s.length < 4611686018427387904
theorem all_take {α : Type} {p : α → Bool} {l : List α} {i : Nat} {x : α} (h : l[i]? = some x) : (l.take (i + 1)).all p = ((l.take i).all p && p x) := by
  rw [List.take_add_one, h, List.all_append]; simp
theorem filter_take {α : Type} {p : α → Bool} {l : List α} {i : Nat} {x : α} (h : l[i]? = some x) : (l.take (i + 1)).filter p = (l.take i).filter p ++ (if p x then [x] else []) := by
  rw [List.take_add_one, h, List.filter_append]
  congr 1
  cases hp : p x <;> simp [hp]
theorem union_in {a b : List Str} {s : Str} (h : s ∈ union a b) : union a (b ++ [s]) = union a b := by
  rw [union_append]; simp [union, h]
theorem union_out {a b : List Str} {s : Str} (h : ¬ s ∈ union a b) : union a (b ++ [s]) = union a b ++ [s] := by
  rw [union_append]; simp [union, h]
end Go.AM
