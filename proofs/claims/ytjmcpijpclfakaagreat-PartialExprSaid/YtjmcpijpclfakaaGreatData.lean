/-
  Texts of the proof, joined by program: SData, PSan. Own work.
-/
import Derived.Test.YtjmcpijpclfakaaGreatFns
import Derived.Test.YtjmcpijpclfakaaGreatBase
import Derived.KernelRfl
set_option linter.unusedSimpArgs false
set_option linter.unusedVariables false
namespace Go.AM
abbrev Str := List UInt8
abbrev vi (n : Int) : V := .int .i64 n
abbrev vnat (n : Nat) : V := .int .i64 (n : Int)
structure Pt where
  x : Int
  y : Int
  deriving DecidableEq
def Pt.v (p : Pt) : V := .agg [vi p.x, vi p.y]
structure Edge where
  id : Int
  line : List Pt
  left : Int
  right : Int
  deriving DecidableEq
def ptsV (l : List Pt) : V := .lit 2 (l.map Pt.v)
def Edge.v (e : Edge) : V := .agg [vi e.id, ptsV e.line, vi e.left, vi e.right]
structure Face where
  id : Int
  cls : Str
  name : Str
  weight : Int
  dist : Int
  deriving DecidableEq
def Face.v (f : Face) : V := .agg [vi f.id, .str f.cls, .str f.name, vi f.weight, vi f.dist]
structure Way where
  id : Int
  line : List Pt
  level : Int
  cls : Str
  name : Str
  stairs : Bool
  weight : Int
  dist : Int
  deriving DecidableEq
def Way.v (w : Way) : V := .agg [vi w.id, ptsV w.line, vi w.level, .str w.cls, .str w.name, .bool w.stairs, vi w.weight, vi w.dist]
structure Place where
  id : Int
  x : Int
  y : Int
  cls : Str
  name : Str
  weight : Int
  dist : Int
  deriving DecidableEq
def Place.v (p : Place) : V := .agg [vi p.id, vi p.x, vi p.y, .str p.cls, .str p.name, vi p.weight, vi p.dist]
structure Event where
  kind : Int
  at_ : Int
  id : Int
  other : Int
  n : Int
  deriving DecidableEq
def Event.v (e : Event) : V := .agg [vi e.kind, vi e.at_, vi e.id, vi e.other, vi e.n]
structure GMap where
  edges : List Edge
  faces : List Face
  ways : List Way
  places : List Place
def GMap.v (m : GMap) : V := .agg [.lit 4 (m.edges.map Edge.v), .lit 5 (m.faces.map Face.v), .lit 8 (m.ways.map Way.v), .lit 7 (m.places.map Place.v)]
theorem arePure_of_all : ∀ {cs : List V}, (∀ x ∈ cs, V.isPure x = true) → V.arePure cs = true
  | [], _ => rfl
  | c :: cs, h => by
    simp only [V.arePure, Bool.and_eq_true]
    exact ⟨h c (by simp), arePure_of_all fun x hx => h x (by simp [hx])⟩
theorem pures {α : Type} {f : α → V} (h : ∀ x, (f x).isPure = true) (l : List α) : V.arePure (l.map f) = true :=
  arePure_of_all fun x hx => by obtain ⟨y, _, rfl⟩ := List.mem_map.1 hx; exact h y
theorem blanks {α : Type} {f : α → V} {sz : Nat} (h : ∀ x, isBlank (f x) sz = true) (l : List α) : (l.map f).all (isBlank · sz) = true := by
  simp [List.all_eq_true, h]
theorem Pt.pures (l : List Pt) : V.arePure (l.map Pt.v) = true := AM.pures (fun _ => rfl) l
theorem Edge.pures (l : List Edge) : V.arePure (l.map Edge.v) = true := AM.pures (fun _ => rfl) l
theorem Face.pures (l : List Face) : V.arePure (l.map Face.v) = true := AM.pures (fun _ => rfl) l
theorem Way.pures (l : List Way) : V.arePure (l.map Way.v) = true := AM.pures (fun _ => rfl) l
theorem Place.pures (l : List Place) : V.arePure (l.map Place.v) = true := AM.pures (fun _ => rfl) l
theorem Event.pures (l : List Event) : V.arePure (l.map Event.v) = true := AM.pures (fun _ => rfl) l
theorem map_get {α : Type} {f : α → V} {l : List α} {i : Nat} {n : Int} {x : α} (h : l[i]? = some x) (hn : n = (i : Int)) : (l.map f)[n.toNat]? = some (f x) := by
  subst hn; simp [h]
theorem get_lt {α : Type} {l : List α} {i : Nat} (h : i < l.length) : l[i]? = some l[i] := List.getElem?_eq_getElem h
theorem win_all {α : Type} {f : α → V} {l : List α} {n : Nat} (h : n = l.length) : window (l.map f) 0 n = l.map f := by
  subst h; unfold window; rw [List.drop_zero, List.take_of_length_le (by simp)]
theorem win_self {l : List V} {n : Nat} (h : n = l.length) : window l 0 n = l := by
  subst h; simp [window]
def w64 (n : Int) : Int := IntKind.i64.wrap n
theorem w64_id {n : Int} (h0 : -9223372036854775808 ≤ n) (h1 : n ≤ 9223372036854775807) : w64 n = n := wrap64 h0 h1
theorem arePure_mem : ∀ {cs : List V}, V.arePure cs = true → ∀ x ∈ cs, V.isPure x = true
  | [], _, x, h => by simp at h
  | c :: cs, h, x, hx => by
    simp only [V.arePure, Bool.and_eq_true] at h
    rcases List.mem_cons.1 hx with rfl | hx
    · exact h.1
    · exact arePure_mem h.2 x hx
theorem arePure_append {a b : List V} (h : V.arePure a = true) (k : V.arePure b = true) : V.arePure (a ++ b) = true :=
  arePure_of_all fun x hx => by
    rcases List.mem_append.1 hx with hx | hx
    · exact arePure_mem h x hx
    · exact arePure_mem k x hx
theorem arePure_overwrite {es ys : List V} {o : Nat} (h : V.arePure es = true) (k : V.arePure ys = true) : V.arePure (overwrite es o ys) = true := by
  refine arePure_append (arePure_append (arePure_of_all fun x hx => ?_) k) (arePure_of_all fun x hx => ?_)
  · exact arePure_mem h x (List.mem_of_mem_take hx)
  · exact arePure_mem h x (List.mem_of_mem_drop hx)
theorem arePure_win {es : List V} {o n : Nat} (h : V.arePure es = true) : V.arePure (window es o n) = true :=
  arePure_of_all fun x hx => arePure_mem h x (List.mem_of_mem_drop (List.mem_of_mem_take hx))
theorem arePure_replicate {n : Nat} {z : V} (h : V.isPure z = true) : V.arePure (List.replicate n z) = true :=
  arePure_of_all fun x hx => by rw [List.eq_of_mem_replicate hx]; exact h
theorem arePure_set {es : List V} {n : Nat} {x : V} (h : V.arePure es = true) (k : V.isPure x = true) : V.arePure (es.set n x) = true :=
  arePure_of_all fun y hy => by
    rcases List.mem_or_eq_of_mem_set hy with hy | rfl
    · exact arePure_mem h y hy
    · exact k
theorem win_pre {α : Type} {f : α → V} {l : List α} {r : List V} {n : Nat} (h : n = l.length) : window (l.map f ++ r) 0 n = l.map f := by
  subst h; unfold window; rw [List.drop_zero, List.take_append_of_le_length (by simp), List.take_of_length_le (by simp)]
theorem firstIdx_cases {α : Type} (p : α → Bool) (l : List α) : (firstIdx p l = -1 ∧ ∀ (i : Nat) (x : α), l[i]? = some x → p x = false) ∨ ∃ (i : Nat) (x : α), firstIdx p l = (i : Int) ∧ l[i]? = some x ∧ p x = true := by
  unfold firstIdx
  cases h : l.findIdx? p with
  | none =>
    refine .inl ⟨rfl, fun i x hx => ?_⟩
    rw [List.findIdx?_eq_none_iff] at h
    simpa using h x (List.mem_of_getElem? hx)
  | some i =>
    rw [List.findIdx?_eq_some_iff_getElem] at h
    obtain ⟨hl, hp, _⟩ := h
    exact .inr ⟨i, l[i], rfl, List.getElem?_eq_getElem hl, hp⟩
theorem sAct_fn {E : Env} {r : Nat} {thaw : Bool} {g : Nat} {args : List V} {v : V} {S : SS} {Q : KK} (hm : modesOf E g = []) (hp : V.arePure args = true) (he : Ev E g args ⟨v, []⟩) (hv : V.isPure v = true) (k : Q v S [] []) : sAct E (doCall2 E r thaw g args) S Q := by
  have key : ∀ (as : List V) (i : Nat) (kk : List V → List Nat → List WRef → Act2), V.arePure as = true → prepare2 (r + 8) as [] i kk = kk as [] [] := by
    intro as
    induction as with
    | nil => intro i kk _; rfl
    | cons a as ih =>
      intro i kk h
      simp only [V.arePure, Bool.and_eq_true] at h
      simp only [prepare2, snapV2, h.1, cond_true, List.nil_append]
      rw [ih (i + 1) _ h.2]
  unfold doCall2
  rw [hm, key args 0 _ hp]
  refine ⟨rfl, ⟨⟨v, []⟩, he, ?_⟩⟩
  simp only [putOuts2, importRes2, hv, cond_true, sAct]
  exact k
theorem sd {p : Prop} (h : p := by
    first | rfl | omega | assumption | exact AM.pures (fun _ => rfl) _ | ((repeat' (first | rfl | exact AM.pures (fun _ => rfl) _ | refine arePure_append ?_ ?_ | refine arePure_set ?_ ?_ | refine arePure_overwrite ?_ ?_ | refine arePure_win ?_ | refine arePure_replicate ?_)); done) | exact blanks (fun _ => rfl) _ | (and_intros <;> first | rfl | omega | assumption | exact AM.pures (fun _ => rfl) _ | ((repeat' (first | rfl | exact AM.pures (fun _ => rfl) _ | refine arePure_append ?_ ?_ | refine arePure_set ?_ ?_ | refine arePure_overwrite ?_ ?_ | refine arePure_win ?_ | refine arePure_replicate ?_)); done) | (simp only [List.length_map, List.length_append, List.length_cons, List.length_nil, List.length_take, List.length_drop]; done) | (simp only [List.length_map, List.length_append, List.length_cons, List.length_nil, List.length_take, List.length_drop]; omega) | (simp [*]; done) | (simp [*]; omega)) | fail) : p := h
theorem ao {p : Prop} (h : p := by
    first | assumption | rfl | omega | (simp only [List.length_map, List.length_append, List.length_cons, List.length_nil, List.length_take, List.length_drop]; omega) | fail) : p := h
theorem lt {p : Prop} (h : p := by
    first | omega | (simp only [List.length_map] at *; omega) | fail) : p := h
theorem st {p q : Prop} (k : q) (h : q → p := by
    first
    | exact Need.mk ⟨Int.natCast_nonneg _, nextR_ilt (by decide) (by decide), rfl, rfl⟩
    | exact Need.mk (p := chk _ _ _ _ = true) (by kernel_rfl)
    | exact Need.mk sd
    | exact Or.inl ∘ Need.mk sd
    | exact Or.inr
    | exact Wit.mk _ win1
    | exact Wit.mk _ (map_get (get_lt lt) rfl)
    | exact Wit.mk _ (win_all (by first | rfl | (simp; done) | fail))
    | exact Wit.mk _ (win_self (by first | rfl | (simp; done) | (simp; omega) | fail))
    | exact Wit.mk _ rfl
    | exact Br.tt
    | exact Br.ff
    | exact Br.t ao
    | exact Br.f ao
    | exact Br.nt ao
    | exact Br.nf ao
    | exact Br.bt (by first | assumption | (simp; done) | fail)
    | exact Br.bf (by first | assumption | (simp; done) | fail)
    | fail) : p := h k
theorem ai {p q : Prop} (k : q) (h : p := by
    first
    | exact Eq.refl _
    | exact wrapS _ (by omega)
    | exact congrArg (V.int .i64) (wrap64 (by omega) (by omega))
    | exact congrArg (V.int .i64) ((wrap64 (by omega) (by omega)).trans (by omega))
    | (conv => whnf); done
    | ((conv => whnf); simp only [List.map_append, List.map_cons, List.map_nil, List.length_append, List.length_cons, List.length_nil, List.length_map]; done)
    | ((conv => whnf); simp only [List.map_append, List.map_cons, List.map_nil, List.length_append, List.length_cons, List.length_nil, List.length_map]; rfl)
    | ((conv => whnf); first | exact wrapS _ (by omega) | (simp; done) | (simp [*]; done) | (simp; omega))
    | fail) : p ∧ q := ⟨h, k⟩
theorem b1 {c c' : Prop} {_ : Decidable c} {p q : Prop} (h : c' → p) (k : ¬ c' → q) (e : c ↔ c' := by
    (try simp only [List.length_map, List.length_append, List.length_cons, List.length_nil, List.length_take, List.length_drop])
    exact Iff.rfl) : Br (decide c) p q := Br.dec (fun x => h (e.1 x)) (fun x => k fun y => x (e.2 y))
theorem b2 {c c' : Prop} {_ : Decidable c} {p q : Prop} (h : ¬ c' → p) (k : c' → q) (e : c ↔ c' := by
    (try simp only [List.length_map, List.length_append, List.length_cons, List.length_nil, List.length_take, List.length_drop])
    exact Iff.rfl) : Br (!decide c) p q := Br.ndec (fun x => h fun y => x (e.2 y)) (fun x => k (e.1 x))
end Go.AM
namespace Go.AM
def isTrue (r : Option Res) : Bool := match r with
  | some ⟨.bool true, []⟩ => true
  | _ => false
theorem isTrue_out {r : Option Res} (h : isTrue r = true) : r = some ⟨.bool true, []⟩ := by
  unfold isTrue at h
  split at h
  · rfl
  · simp at h
end Go.AM
