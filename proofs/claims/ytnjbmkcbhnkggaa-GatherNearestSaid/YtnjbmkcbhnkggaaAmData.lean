/-
  The program's data as the machine's values. Own work.
-/
import Derived.Test.YtnjbmkcbhnkggaaAmFns
set_option linter.unusedSimpArgs false
namespace Go.AM

abbrev Str := List UInt8

structure Place where
  id : Int
  x : Int
  y : Int
  cls : Str
  name : Str
  weight : Int
  dist : Int
  deriving DecidableEq
def Place.v (p : Place) : V := .agg [.int .i64 p.id, .int .i64 p.x, .int .i64 p.y, .str p.cls, .str p.name, .int .i64 p.weight, .int .i64 p.dist]
theorem Place.pure (p : Place) : p.v.isPure = true := rfl
theorem Place.part (p : Place) : AM.part true 0 7 p.v = some p.v := rfl
theorem Place.blank (p : Place) : isBlank p.v 7 = true := rfl
def Place.zero : Place := ⟨0, 0, 0, [], [], 0, 0⟩

structure Event where
  kind : Int
  at_ : Int
  id : Int
  other : Int
  n : Int
  deriving DecidableEq
def Event.v (e : Event) : V := .agg [.int .i64 e.kind, .int .i64 e.at_, .int .i64 e.id, .int .i64 e.other, .int .i64 e.n]
theorem Event.pure (p : Event) : p.v.isPure = true := rfl
theorem Event.part (p : Event) : AM.part true 0 5 p.v = some p.v := rfl
theorem Event.blank (p : Event) : isBlank p.v 5 = true := rfl

theorem arePure_map {α : Type} {enc : α → V} (h : ∀ x, (enc x).isPure = true) (l : List α) : V.arePure (l.map enc) = true :=
  arePure_of fun x hx => by obtain ⟨y, _, rfl⟩ := List.mem_map.1 hx; exact h y

theorem Place.blanks (l : List Place) : (l.map Place.v).all (isBlank · 7) = true := by
  simp [Place.blank]
theorem Place.pures (l : List Place) : V.arePure (l.map Place.v) = true := arePure_map Place.pure l

theorem Event.blanks (l : List Event) : (l.map Event.v).all (isBlank · 5) = true := by
  simp [Event.blank]
theorem Event.scalars : ∀ (l : List Event), V.areScalar (l.map Event.v) = true
  | [] => rfl
  | e :: l => by simp only [List.map_cons, V.areScalar, Event.scalars l, Event.v, V.isScalar, Bool.and_self]
theorem Event.pures (l : List Event) : V.arePure (l.map Event.v) = true := arePure_map Event.pure l

end Go.AM
