/-
  How the abstract machine's states stand to the model's worlds. Own work.
-/
import Derived.Test.YtnjbmkcbhnkggaaAmTr
import Derived.Calls
import Derived.Orders
import Derived.Below
import Derived.Laws.Cells
import Derived.Laws.Rows
namespace Go.AM
open Go Go.RowKit

/-- the translation's tables, and blocks that nothing here may lead to (what a caller may write) -/
structure Ctx extends TrEnv where
  ban : Nat → Prop
instance : CoeOut Ctx TrEnv := ⟨Ctx.toTrEnv⟩

structure Row where
  blk : Nat
  base : Nat
  cap : Nat

/-- a view: the world, where the objects lie, and what they hold -/
structure Mu where
  w : World
  φ : Nat → Row
  O : Nat → Obj

/-- a block that an object may write -/
def Mu.own (μ : Mu) (b : Nat) : Prop := ∃ r, (μ.O r).es.isSome = true ∧ (μ.O r).fz = false ∧ (μ.φ r).cap ≠ 0 ∧ (μ.φ r).blk = b

def Own (X : Ctx) (μ : Mu) (b : Nat) : Prop := μ.own b ∨ X.ban b

/-- values one after the other in memory, 'sz' cells each -/
def RowAt (w : World) (b off sz : Nat) (vs : List Value) : Prop :=
  ∀ i v, vs[i]? = some v → v.cells.size = sz ∧ ∀ j c, v.cells[j]? = some c → w.cell? ⟨b, off + i * sz + j, none⟩ = some c

section
variable (X : Ctx) (μ : Mu)
mutual
def VRel : V → Value → Prop
  | .bool b, v => v = .bool b
  | .int k n, v => v = .int k n
  | .float b, v => v = .float .f64 b
  | .str s, v => ∃ bs : ByteArray, v = .string bs ∧ bs.data.toList = s
  | .agg cs, v => cs.all V.isCell = true ∧ ∃ vs, v = .agg vs ∧ VRels cs vs.toList
  | .tuple cs, v => ∃ vs, v = .tuple vs ∧ VRels cs vs.toList
  | .nilp, v => v = .pointer none
  | .nilfn, v => v = .nilFunc
  | .nili, v => v = .nilIface
  | .fn f caps, v => ∃ F cv, v = .func (.func F) #[] cv ∧ X.fnum F = some f ∧ VRels caps cv.toList
  | .iface t x, v => ∃ T y, v = .iface T y ∧ X.tnum T = some t ∧ VRel x y
  | .nils, v => ∃ a, v = .slice a 0 0
  | .lit sz xs, v => V.arePure xs = true ∧ xs.all V.lies = true ∧ ∃ a cap vs, v = .slice a xs.length cap ∧ xs.length ≤ cap ∧ VRels xs vs ∧
      (xs = [] ∨ ∃ b o, a = some ⟨b, o, none⟩ ∧ ¬ Own X μ b ∧ b < μ.w.heap.size ∧ RowAt μ.w b o sz vs)
  | .own .., _ => False
  | .sl r g off len, v => ∃ a cap, v = .slice a len cap ∧ len ≤ cap ∧ g ≤ (μ.O r).gen ∧
      ((μ.O r).gen = g → cap + off = (μ.φ r).cap ∧ (cap = 0 ∨ a = some ⟨(μ.φ r).blk, (μ.φ r).base + off * (μ.O r).sz, none⟩))
  | .ptr r g idx off, v => ∃ a, v = .pointer (some a) ∧ g ≤ (μ.O r).gen ∧
      ((μ.O r).gen = g → a = ⟨(μ.φ r).blk, (μ.φ r).base + idx * (μ.O r).sz + off, none⟩)
  | .eptr e off, v => V.isPure e = true ∧ V.lies e = true ∧ ∃ b o sz x, v = .pointer (some ⟨b, o + off, none⟩) ∧ ¬ Own X μ b ∧ b < μ.w.heap.size ∧ VRel e x ∧ RowAt μ.w b o sz [x]
  | .msl .., _ => False
  | .mptr .., _ => False
  | .any, _ => True
def VRels : List V → List Value → Prop
  | [], [] => True
  | x :: xs, v :: vs => VRel x v ∧ VRels xs vs
  | _, _ => False
end
end

theorem VRels.length {X : Ctx} {μ : Mu} : ∀ {xs : List V} {vs : List Value}, VRels X μ xs vs → xs.length = vs.length
  | [], [], _ => rfl
  | [], _ :: _, h => by simp [VRels] at h
  | _ :: _, [], h => by simp [VRels] at h
  | _ :: _, _ :: _, h => by simp only [VRels] at h; simp [VRels.length h.2]

theorem VRels.get {X : Ctx} {μ : Mu} : ∀ {xs : List V} {vs : List Value}, VRels X μ xs vs → ∀ {i : Nat} {x : V}, xs[i]? = some x → ∃ v, vs[i]? = some v ∧ VRel X μ x v
  | [], _, _, i, x, hx => by simp at hx
  | _ :: _, [], h, _, _, _ => by simp [VRels] at h
  | y :: ys, v :: vs, h, i, x, hx => by
    simp only [VRels] at h
    cases i with
    | zero => simp at hx; subst hx; exact ⟨v, by simp, h.1⟩
    | succ i => simp at hx; simpa using VRels.get h.2 hx

theorem VRels.of_get {X : Ctx} {μ : Mu} : ∀ {xs : List V} {vs : List Value}, xs.length = vs.length → (∀ (i : Nat) (x : V) (v : Value), xs[i]? = some x → vs[i]? = some v → VRel X μ x v) → VRels X μ xs vs
  | [], [], _, _ => by simp [VRels]
  | [], _ :: _, h, _ => by simp at h
  | _ :: _, [], h, _ => by simp at h
  | x :: xs, v :: vs, h, hg => by
    simp only [VRels]
    exact ⟨hg 0 x v (by simp) (by simp), VRels.of_get (by simpa using h) fun i y u hy hu => hg (i + 1) y u (by simpa using hy) (by simpa using hu)⟩

theorem VRels.append {X : Ctx} {μ : Mu} : ∀ {xs ys : List V} {vs us : List Value}, VRels X μ xs vs → VRels X μ ys us → VRels X μ (xs ++ ys) (vs ++ us)
  | [], _, [], _, _, h => by simpa using h
  | [], _, _ :: _, _, h, _ => by simp [VRels] at h
  | _ :: _, _, [], _, h, _ => by simp [VRels] at h
  | x :: xs, ys, v :: vs, us, h, h' => by
    simp only [VRels] at h
    simp only [List.cons_append, VRels]
    exact ⟨h.1, VRels.append h.2 h'⟩
theorem VRels.take {X : Ctx} {μ : Mu} : ∀ {xs : List V} {vs : List Value} (n : Nat), VRels X μ xs vs → VRels X μ (xs.take n) (vs.take n)
  | _, _, 0, _ => by simp [VRels]
  | [], [], n + 1, _ => by simp [VRels]
  | [], _ :: _, n + 1, h => by simp [VRels] at h
  | _ :: _, [], n + 1, h => by simp [VRels] at h
  | x :: xs, v :: vs, n + 1, h => by
    simp only [VRels] at h
    simp only [List.take_succ_cons, VRels]
    exact ⟨h.1, VRels.take n h.2⟩
theorem VRels.drop {X : Ctx} {μ : Mu} : ∀ {xs : List V} {vs : List Value} (n : Nat), VRels X μ xs vs → VRels X μ (xs.drop n) (vs.drop n)
  | _, _, 0, h => by simpa using h
  | [], [], n + 1, _ => by simp [VRels]
  | [], _ :: _, n + 1, h => by simp [VRels] at h
  | _ :: _, [], n + 1, h => by simp [VRels] at h
  | x :: xs, v :: vs, n + 1, h => by
    simp only [VRels] at h
    simpa using VRels.drop n h.2
theorem VRels.set {X : Ctx} {μ : Mu} {xs : List V} {vs : List Value} (h : VRels X μ xs vs) (i : Nat) {x : V} {v : Value} (hx : VRel X μ x v) : VRels X μ (xs.set i x) (vs.set i v) := by
  refine VRels.of_get (by simpa using h.length) fun j y u hy hu => ?_
  rw [List.getElem?_set] at hy hu
  split at hy
  · rename_i e
    subst e
    by_cases hl : i < xs.length
    · have hl' : i < vs.length := by rw [← h.length]; exact hl
      simp [hl] at hy; simp [hl'] at hu
      subst hy hu; exact hx
    · simp [hl] at hy
  · rename_i e
    simp [e] at hu
    obtain ⟨u', hu', hr⟩ := h.get hy
    rw [hu] at hu'; injection hu' with hu'; subst hu'; exact hr

/-! ## later views -/

structure Le (μ μ' : Mu) : Prop where
  size : μ.w.heap.size ≤ μ'.w.heap.size
  keep : ∀ b, b < μ.w.heap.size → ¬ μ.own b → μ'.w.heap[b]? = μ.w.heap[b]? ∧ ¬ μ'.own b
  gen : ∀ r, (μ.O r).gen ≤ (μ'.O r).gen
  row : ∀ r, (μ'.O r).gen = (μ.O r).gen → μ'.φ r = μ.φ r ∧ (μ'.O r).sz = (μ.O r).sz
  os : μ'.w.os = μ.w.os
  output : μ'.w.output = μ.w.output
  tape : μ'.w.tape = μ.w.tape
  frozen : ∀ a : Addr, a.block < μ.w.heap.size → μ'.w.frozen? a = μ.w.frozen? a
  fresh : ∀ a : Addr, μ.w.heap.size ≤ a.block → μ'.w.frozen? a = false

theorem frozen_out {w : World} {a : Addr} (h : w.heap.size ≤ a.block) : w.frozen? a = false := by
  simp [World.frozen?, Array.getElem?_eq_none h]

theorem Le.refl (μ : Mu) : Le μ μ :=
  ⟨Nat.le_refl _, fun _ _ h => ⟨rfl, h⟩, fun _ => Nat.le_refl _, fun _ _ => ⟨rfl, rfl⟩, rfl, rfl, rfl, fun _ _ => rfl, fun _ h => frozen_out h⟩

theorem Le.trans {a b c : Mu} (h : Le a b) (k : Le b c) : Le a c where
  size := Nat.le_trans h.size k.size
  keep := fun i hi ho => by
    obtain ⟨h1, h2⟩ := h.keep i hi ho
    obtain ⟨k1, k2⟩ := k.keep i (Nat.lt_of_lt_of_le hi h.size) h2
    exact ⟨k1.trans h1, k2⟩
  gen := fun r => Nat.le_trans (h.gen r) (k.gen r)
  row := fun r e => by
    have h1 := h.gen r
    have k1 := k.gen r
    obtain ⟨a1, a2⟩ := h.row r (by omega)
    obtain ⟨b1, b2⟩ := k.row r (by omega)
    exact ⟨b1.trans a1, b2.trans a2⟩
  os := k.os.trans h.os
  output := k.output.trans h.output
  tape := k.tape.trans h.tape
  frozen := fun x hx => (k.frozen x (Nat.lt_of_lt_of_le hx h.size)).trans (h.frozen x hx)
  fresh := fun x hx => by
    by_cases hb : b.w.heap.size ≤ x.block
    · exact k.fresh x hb
    · rw [k.frozen x (by omega)]; exact h.fresh x hx

theorem RowAt.keep {w w' : World} {b off sz : Nat} {vs : List Value} (h : RowAt w b off sz vs) (e : w'.heap[b]? = w.heap[b]?) : RowAt w' b off sz vs := by
  intro i v hv
  obtain ⟨h1, h2⟩ := h i v hv
  refine ⟨h1, fun j c hc => ?_⟩
  rw [← h2 j c hc]
  simp [World.cell?, e]

mutual
theorem VRel.mono {X : Ctx} {μ μ' : Mu} (le : Le μ μ') : ∀ {x : V} {v : Value}, VRel X μ x v → VRel X μ' x v
  | .bool _, _, h | .int .., _, h | .float _, _, h | .str _, _, h | .nilp, _, h | .nilfn, _, h | .nili, _, h | .nils, _, h => by simpa [VRel] using h
  | .any, _, _ => by simp [VRel]
  | .own .., _, h | .msl .., _, h | .mptr .., _, h => by simp [VRel] at h
  | .agg cs, _, h => by
    simp only [VRel] at h ⊢
    obtain ⟨h1, vs, rfl, h2⟩ := h
    exact ⟨h1, vs, rfl, VRels.mono le h2⟩
  | .tuple cs, _, h => by
    simp only [VRel] at h ⊢
    obtain ⟨vs, rfl, h2⟩ := h
    exact ⟨vs, rfl, VRels.mono le h2⟩
  | .fn f cs, _, h => by
    simp only [VRel] at h ⊢
    obtain ⟨F, cv, rfl, h1, h2⟩ := h
    exact ⟨F, cv, rfl, h1, VRels.mono le h2⟩
  | .iface t x, _, h => by
    simp only [VRel] at h ⊢
    obtain ⟨T, y, rfl, h1, h2⟩ := h
    exact ⟨T, y, rfl, h1, VRel.mono le h2⟩
  | .lit sz xs, _, h => by
    simp only [VRel] at h ⊢
    obtain ⟨h0, h0', a, cap, vs, rfl, h1, h2, h3⟩ := h
    refine ⟨h0, h0', a, cap, vs, rfl, h1, VRels.mono le h2, h3.imp id ?_⟩
    rintro ⟨b, o, rfl, hb, hs, hr⟩
    obtain ⟨k1, k2⟩ := le.keep b hs (fun h => hb (.inl h))
    exact ⟨b, o, rfl, (fun h => h.elim k2 fun h => hb (.inr h)), Nat.lt_of_lt_of_le hs le.size, hr.keep k1⟩
  | .sl r g off len, _, h => by
    simp only [VRel] at h ⊢
    obtain ⟨a, cap, rfl, h1, h2, h3⟩ := h
    have hg := le.gen r
    refine ⟨a, cap, rfl, h1, by omega, fun e => ?_⟩
    obtain ⟨e1, e2⟩ := le.row r (by omega)
    rw [e1, e2]; exact h3 (by omega)
  | .ptr r g idx off, _, h => by
    simp only [VRel] at h ⊢
    obtain ⟨a, rfl, h2, h3⟩ := h
    have hg := le.gen r
    refine ⟨a, rfl, by omega, fun e => ?_⟩
    obtain ⟨e1, e2⟩ := le.row r (by omega)
    rw [e1, e2]; exact h3 (by omega)
  | .eptr e off, _, h => by
    simp only [VRel] at h ⊢
    obtain ⟨h0, h0', b, o, sz, x, rfl, hb, hs, h1, hr⟩ := h
    obtain ⟨k1, k2⟩ := le.keep b hs (fun h => hb (.inl h))
    exact ⟨h0, h0', b, o, sz, x, rfl, (fun h => h.elim k2 fun h => hb (.inr h)), Nat.lt_of_lt_of_le hs le.size, VRel.mono le h1, hr.keep k1⟩
theorem VRels.mono {X : Ctx} {μ μ' : Mu} (le : Le μ μ') : ∀ {xs : List V} {vs : List Value}, VRels X μ xs vs → VRels X μ' xs vs
  | [], [], _ => by simp [VRels]
  | [], _ :: _, h => by simp [VRels] at h
  | _ :: _, [], h => by simp [VRels] at h
  | x :: xs, v :: vs, h => by
    simp only [VRels] at h ⊢
    exact ⟨VRel.mono le h.1, VRels.mono le h.2⟩
end

/-! ## what a view's objects promise -/

def ObjOk (X : Ctx) (μ : Mu) (r : Nat) : Prop := ∀ es, (μ.O r).es = some es → 0 < (μ.O r).sz ∧ es.length ≤ (μ.φ r).cap ∧ es.all (isBlank · (μ.O r).sz) = true ∧
  ((μ.φ r).cap = 0 ∨ ∃ c T vs, μ.w.heap[(μ.φ r).blk]? = some (.cells c T (0, 0)) ∧ (μ.φ r).base + (μ.φ r).cap * (μ.O r).sz ≤ c.size ∧ VRels X μ es vs ∧
    RowAt μ.w (μ.φ r).blk (μ.φ r).base (μ.O r).sz vs)

def Inj (μ : Mu) : Prop := ∀ r r', r ≠ r' → (μ.O r).es.isSome = true → (μ.O r').es.isSome = true → (μ.φ r).cap ≠ 0 → (μ.φ r').cap ≠ 0 → (μ.φ r).blk ≠ (μ.φ r').blk

structure Objs (X : Ctx) (μ : Mu) : Prop where
  ok : ∀ r, ObjOk X μ r
  inj : Inj μ
  nob : ∀ r, (μ.O r).es.isSome = true → (μ.φ r).cap ≠ 0 → ¬ X.ban (μ.φ r).blk
  blt : ∀ b, X.ban b → b < μ.w.heap.size

/-- what has become of the world at which the function began -/
structure Frame0 (w0 : World) (own0 : Nat → Prop) (μ : Mu) : Prop where
  size : w0.heap.size ≤ μ.w.heap.size
  keep : ∀ b, b < w0.heap.size → ¬ own0 b → μ.w.heap[b]? = w0.heap[b]? ∧ ¬ μ.own b
  os : μ.w.os = w0.os
  output : μ.w.output = w0.output
  tape : μ.w.tape = w0.tape
  frozen : ∀ a : Addr, a.block < w0.heap.size → μ.w.frozen? a = w0.frozen? a
  fresh : ∀ a : Addr, w0.heap.size ≤ a.block → μ.w.frozen? a = false

theorem Frame0.step {w0 : World} {own0 : Nat → Prop} {μ μ' : Mu} (h : Frame0 w0 own0 μ) (k : Le μ μ') : Frame0 w0 own0 μ' where
  size := Nat.le_trans h.size k.size
  keep := fun i hi ho => by
    obtain ⟨h1, h2⟩ := h.keep i hi ho
    obtain ⟨k1, k2⟩ := k.keep i (Nat.lt_of_lt_of_le hi h.size) h2
    exact ⟨k1.trans h1, k2⟩
  os := k.os.trans h.os
  output := k.output.trans h.output
  tape := k.tape.trans h.tape
  frozen := fun x hx => (k.frozen x (Nat.lt_of_lt_of_le hx h.size)).trans (h.frozen x hx)
  fresh := fun x hx => by
    by_cases hb : μ.w.heap.size ≤ x.block
    · exact k.fresh x hb
    · rw [k.frozen x (by omega)]; exact h.fresh x hx

/-! ## cells of related values -/

theorem VRel.oneCell {X : Ctx} {μ : Mu} {x : V} {v : Value} (h : VRel X μ x v) (hc : x.isCell = true) : v.oneCell' = true ∧ v.cells = #[v] := by
  cases x <;> simp [V.isCell] at hc <;> simp only [VRel] at h
  case bool => subst h; exact ⟨rfl, rfl⟩
  case int => subst h; exact ⟨rfl, rfl⟩
  case float => subst h; exact ⟨rfl, rfl⟩
  case str => obtain ⟨_, rfl, _⟩ := h; exact ⟨rfl, rfl⟩
  case nilp => subst h; exact ⟨rfl, rfl⟩
  case nilfn => subst h; exact ⟨rfl, rfl⟩
  case nili => subst h; exact ⟨rfl, rfl⟩
  case fn => obtain ⟨_, _, rfl, _⟩ := h; exact ⟨rfl, rfl⟩
  case iface => obtain ⟨_, _, rfl, _⟩ := h; exact ⟨rfl, rfl⟩
  case nils => obtain ⟨_, rfl⟩ := h; exact ⟨rfl, rfl⟩
  case lit => obtain ⟨_, _, _, _, _, rfl, _⟩ := h; exact ⟨rfl, rfl⟩
  case sl => obtain ⟨_, _, rfl, _⟩ := h; exact ⟨rfl, rfl⟩
  case ptr => obtain ⟨_, rfl, _⟩ := h; exact ⟨rfl, rfl⟩
  case eptr => obtain ⟨_, _, _, _, _, _, rfl, _⟩ := h; exact ⟨rfl, rfl⟩

theorem V.cells_of_isCell {x : V} (h : x.isCell = true) : x.cells = [x] := by
  cases x <;> simp_all [V.isCell, V.cells]

theorem VRel.cells {X : Ctx} {μ : Mu} {x : V} {v : Value} (h : VRel X μ x v) (hl : x.lies = true) : VRels X μ x.cells v.cells.toList := by
  simp only [V.lies, Bool.or_eq_true] at hl
  rcases hl with hl | hl
  · cases x <;> simp [V.isAgg] at hl
    simp only [VRel] at h
    obtain ⟨_, vs, rfl, h2⟩ := h
    exact h2
  · rw [(h.oneCell hl).2, V.cells_of_isCell hl]
    simp [VRels, h]

theorem VRel.cells_size {X : Ctx} {μ : Mu} {x : V} {v : Value} (h : VRel X μ x v) (hl : x.lies = true) : v.cells.size = x.cells.length := by
  have := (h.cells hl).length
  simpa using this.symm

theorem VRel.cells_isCell {X : Ctx} {μ : Mu} {x : V} {v : Value} (h : VRel X μ x v) (hl : x.lies = true) : x.cells.all V.isCell = true := by
  simp only [V.lies, Bool.or_eq_true] at hl
  rcases hl with hl | hl
  · cases x <;> simp [V.isAgg] at hl
    simp only [VRel] at h
    exact h.1
  · rw [V.cells_of_isCell hl]; simp [hl]

end Go.AM
