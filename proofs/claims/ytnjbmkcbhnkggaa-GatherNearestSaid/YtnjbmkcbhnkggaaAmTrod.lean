/-
  What a row reads as data, as the machine's values. Own work.
-/
import Derived.Test.YtnjbmkcbhnkggaaAmGlue
import Derived.ChangeArms
import Derived.OpenShut
import Derived.Deep.Slices
import Derived.Carry
set_option linter.unusedSimpArgs false
namespace Go.AM
open Go Go.RowKit

section
variable (P : Program)

/-- an element of a slice: the cells of a struct or an array together -/
def mkEl (e : TypeId) (ws : List V) : V := match P.underlying e with
  | some (.struct _) | some (.array ..) => .agg ws
  | _ => ws.headD undefV

def TVF (tv : TypeId → List V → Prop) : List Field → List V → Prop
  | [], vs => vs = []
  | f :: fs, vs => ∃ a b, vs = a ++ b ∧ a.length = P.cellsOf f.type ∧ tv f.type a ∧ TVF tv fs b
def TVA (tv : List V → Prop) (s : Nat) : Nat → List V → Prop
  | 0, vs => vs = []
  | k + 1, vs => ∃ a b, vs = a ++ b ∧ a.length = s ∧ tv a ∧ TVA tv s k b

/-- cells that hold a value of a type -/
def TV : Nat → TypeId → List V → Prop
  | 0, _, _ => False
  | n + 1, t, vs => match P.underlying t with
    | some .bool => ∃ b, vs = [.bool b]
    | some (.int k) => ∃ x, vs = [.int k x] ∧ (Lit.int k x).wf = true
    | some .string => ∃ s, vs = [.str s] ∧ s.length ≤ maxLen
    | some (.slice e) => vs = [.nils] ∨ ∃ xs, vs = [.lit (P.cellsOf e) xs] ∧ xs.length ≤ maxLen ∧ ∀ x ∈ xs, ∃ ws, TV n e ws ∧ x = mkEl P e ws
    | some (.struct fs) => TVF P (TV n) fs.toList vs
    | some (.array k e) => TVA (TV n e) (P.cellsOf e) k vs
    | _ => False

def contig : List Field → Nat → Option Nat
  | [], off => some off
  | f :: fs, off => if f.offset = off then contig fs (off + P.cellsOf f.type) else none

/-- types whose values are plain data, one after the other in memory -/
def plainT (S : List TypeId) (t : TypeId) : Bool := match P.underlying t with
  | some .bool | some (.int _) | some .string => P.cellsOf t == 1
  | some (.slice e) => P.cellsOf t == 1 && decide (0 < P.cellsOf e) && S.contains e
  | some (.struct fs) => (contig P fs.toList 0 == some (P.cellsOf t)) && fs.toList.all fun f => S.contains f.type
  | some (.array k e) => S.contains e && P.cellsOf t == k * P.cellsOf e
  | _ => false
end

section
variable {X : TrEnv} {H : Type} {enc : TypeId × Value → H} {w : World} {S : List TypeId} {base : Nat} {spare : Nat → Bool} {held : Bool}

/-- nothing that is written: any rows will do -/
abbrev still (w : World) (φ : Nat → Row) : Mu := ⟨w, φ, fun _ => deadObj⟩
abbrev free (X : TrEnv) : Ctx := ⟨X, fun _ => False⟩

def Good (X : TrEnv) (w : World) (n : Nat) (t : TypeId) (vs : List V) (cs : List Value) : Prop :=
  TV X.P n t vs ∧ vs.all V.isCell = true ∧ V.arePure vs = true ∧ ∀ φ, VRels (free X) (still w φ) vs cs

theorem arePure_append : ∀ {a b : List V}, V.arePure (a ++ b) = (V.arePure a && V.arePure b)
  | [], b => by simp [V.arePure]
  | x :: a, b => by simp [V.arePure, arePure_append (a := a), Bool.and_assoc]

theorem fields_good {n : Nat} : ∀ {fs : List Field} {cs : List Value} {off total : Nat}, contig X.P fs off = some total → cs.length = total →
    (∀ f ∈ fs, ∃ vs, Good X w n f.type vs ((cs.drop f.offset).take (X.P.cellsOf f.type))) →
    ∃ vs, TVF X.P (TV X.P n) fs vs ∧ vs.all V.isCell = true ∧ V.arePure vs = true ∧ ∀ φ, VRels (free X) (still w φ) vs (cs.drop off)
  | [], cs, off, total, hc, hl, _ => by
    simp only [contig, Option.some.injEq] at hc
    subst hc
    refine ⟨[], rfl, rfl, rfl, fun φ => ?_⟩
    rw [List.drop_eq_nil_of_le (by omega)]; simp [VRels]
  | f :: fs, cs, off, total, hc, hl, hf => by
    simp only [contig] at hc
    split at hc
    · rename_i ho
      subst ho
      obtain ⟨a, ha1, ha2, ha3, ha4⟩ := hf f (by simp)
      obtain ⟨b, hb1, hb2, hb3, hb4⟩ := fields_good hc hl (fun g hg => hf g (by simp [hg]))
      have hle : f.offset + X.P.cellsOf f.type ≤ total := by
        clear ha1 ha2 ha3 ha4 hb1 hb2 hb3 hb4 hf
        have : ∀ (fs : List Field) (o tt : Nat), contig X.P fs o = some tt → o ≤ tt := by
          intro fs
          induction fs with
          | nil => intro o tt h; simp [contig] at h; omega
          | cons g gs ih =>
            intro o tt h
            simp only [contig] at h
            split at h
            · have := ih _ _ h; omega
            · simp at h
        exact this _ _ _ hc
      have hal : a.length = X.P.cellsOf f.type := by
        have := (ha4 (fun _ => ⟨0, 0, 0⟩)).length
        rw [this]; simp; omega
      refine ⟨a ++ b, ⟨a, b, rfl, hal, ha1, hb1⟩, by simp [ha2, hb2], by rw [arePure_append, ha3, hb3]; rfl, fun φ => ?_⟩
      have e : cs.drop f.offset = (cs.drop f.offset).take (X.P.cellsOf f.type) ++ cs.drop (f.offset + X.P.cellsOf f.type) := by
        rw [← List.drop_drop, List.take_append_drop]
      rw [e]
      exact VRels.append (ha4 φ) (hb4 φ)
    · simp at hc

theorem elems_good {n : Nat} {e : TypeId} : ∀ (k : Nat) {cs : List Value} (j : Nat), cs.length = (j + k) * X.P.cellsOf e →
    (∀ i, i < j + k → ∃ vs, Good X w n e vs ((cs.drop (i * X.P.cellsOf e)).take (X.P.cellsOf e))) →
    ∃ vs, TVA (TV X.P n e) (X.P.cellsOf e) k vs ∧ vs.all V.isCell = true ∧ V.arePure vs = true ∧ ∀ φ, VRels (free X) (still w φ) vs (cs.drop (j * X.P.cellsOf e))
  | 0, cs, j, hl, _ => by
    refine ⟨[], rfl, rfl, rfl, fun φ => ?_⟩
    rw [List.drop_eq_nil_of_le (by rw [hl]; simp)]; simp [VRels]
  | k + 1, cs, j, hl, hf => by
    obtain ⟨a, ha1, ha2, ha3, ha4⟩ := hf j (by omega)
    have e1 : j + 1 + k = j + (k + 1) := by omega
    obtain ⟨b, hb1, hb2, hb3, hb4⟩ := elems_good k (cs := cs) (j + 1) (by rw [e1]; exact hl) (fun i hi => hf i (by omega))
    have hal : a.length = X.P.cellsOf e := by
      have := (ha4 (fun _ => ⟨0, 0, 0⟩)).length
      rw [this]; simp
      rw [hl, ← Nat.sub_mul]
      have : 1 ≤ j + (k + 1) - j := by omega
      exact Nat.min_eq_left (Nat.le_mul_of_pos_left _ this)
    refine ⟨a ++ b, ⟨a, b, rfl, hal, ha1, hb1⟩, by simp [ha2, hb2], by rw [arePure_append, ha3, hb3]; rfl, fun φ => ?_⟩
    have e : cs.drop (j * X.P.cellsOf e) = (cs.drop (j * X.P.cellsOf e)).take (X.P.cellsOf e) ++ cs.drop ((j + 1) * X.P.cellsOf e) := by
      rw [Nat.add_mul, Nat.one_mul, ← List.drop_drop, List.take_append_drop]
    rw [e]
    exact VRels.append (ha4 φ) (hb4 φ)

theorem list_of {α : Type} {p : Nat → α → Prop} : ∀ (n : Nat), (∀ i, i < n → ∃ x, p i x) → ∃ xs : List α, xs.length = n ∧ ∀ i x, xs[i]? = some x → p i x
  | 0, _ => ⟨[], rfl, by simp⟩
  | n + 1, h => by
    obtain ⟨xs, h1, h2⟩ := list_of n (fun i hi => h i (by omega))
    obtain ⟨x, hx⟩ := h n (by omega)
    refine ⟨xs ++ [x], by simp [h1], fun i y hy => ?_⟩
    by_cases hi : i < xs.length
    · rw [List.getElem?_append_left hi] at hy; exact h2 i y hy
    · rw [List.getElem?_append_right (by omega)] at hy
      have : i - xs.length = 0 := by
        have := (List.getElem?_eq_some_iff.1 hy).1
        simp at this; omega
      rw [this] at hy
      simp at hy; subst hy
      have : i = n := by omega
      subst this; exact hx

theorem trod_good (hS : S.all (plainT X.P S) = true) : ∀ (n : Nat) (t : TypeId) (cs : List Value) (x : DataW H × List MemPlace), t ∈ S → DataW.trod enc X.P w base spare held n t cs = some x → ∃ vs, Good X w n t vs cs := by
  intro n
  induction n with
  | zero => intro t cs x _ h; simp [DataW.trod] at h
  | succ n ih =>
    intro t cs x ht h
    have hp := List.all_eq_true.1 hS t ht
    unfold plainT at hp
    cases hu : X.P.underlying t with
    | none => rw [hu] at hp; simp at hp
    | some desc =>
      rw [hu] at hp
      cases desc with
      | bool =>
        obtain ⟨b, rfl, _⟩ := DataW.trod_bool hu h
        exact ⟨[.bool b], by simp [TV, hu], rfl, rfl, fun φ => by simp [VRels, VRel]⟩
      | int k =>
        obtain ⟨m, rfl, _, hw⟩ := DataW.trod_int hu h
        exact ⟨[.int k m], by simp [TV, hu, hw], rfl, rfl, fun φ => by simp [VRels, VRel]⟩
      | string =>
        obtain ⟨s, rfl, _, hm⟩ := DataW.trod_string hu h
        exact ⟨[.str s.data.toList], by simp only [TV, hu]; exact ⟨_, rfl, by simpa using hm⟩, rfl, rfl, fun φ => by simp only [VRels, VRel]; exact ⟨⟨s, rfl, rfl⟩, trivial⟩⟩
      | slice e =>
        simp only [Bool.and_eq_true, decide_eq_true_eq] at hp
        obtain ⟨⟨_, hpos⟩, he⟩ := hp
        have he' : e ∈ S := by simpa using he
        rcases DataW.trod_slice hu h with ⟨rfl, _⟩ | ⟨a, len, cap, elems, rest, m, hn, rfl, _, hb, hl, hm, hlen, hel, _, _⟩
        · exact ⟨[.nils], by simp [TV, hu], rfl, rfl, fun φ => by simp only [VRels, VRel]; exact ⟨⟨none, rfl⟩, trivial⟩⟩
        · obtain rfl : n = m := by omega
          have each : ∀ i, i < len → ∃ q : V × Value, (∃ ws, TV X.P n e ws ∧ q.1 = mkEl X.P e ws) ∧ q.1.isPure = true ∧ q.1.lies = true ∧ (∀ φ, VRel (free X) (still w φ) q.1 q.2) ∧
              q.2.cells.size = X.P.cellsOf e ∧ ∀ j c, q.2.cells[j]? = some c → w.cell? ((a.add (i * X.P.cellsOf e)).add j) = some c := by
            intro i hi
            have h1 := hel i hi
            rw [List.getElem?_eq_getElem (by omega)] at h1
            rw [Option.bind_eq_some_iff] at h1
            obtain ⟨cs', hc, ht'⟩ := h1
            obtain ⟨_, hcl, hat⟩ := World.cells?_some hc
            obtain ⟨ws, g1, g2, g3, g4⟩ := ih e cs' _ he' ht'
            have hwl : ws.length = cs'.length := (g4 (fun _ => ⟨0, 0, 0⟩)).length
            have hcells : ∀ (v : Value), v.cells.toList = cs' → v.cells.size = X.P.cellsOf e ∧ ∀ j c, v.cells[j]? = some c → w.cell? ((a.add (i * X.P.cellsOf e)).add j) = some c := by
              intro v hv
              have hs : v.cells.size = cs'.length := by rw [← hv]; simp
              refine ⟨by rw [hs, hcl], fun j c hj => ?_⟩
              have hj' : cs'[j]? = some c := by rw [← hv]; simpa using hj
              rw [hat j (by have := (List.getElem?_eq_some_iff.1 hj').1; omega)]; exact hj'
            have hagg : (∃ fs, X.P.underlying e = some (.struct fs)) ∨ (∃ k e', X.P.underlying e = some (.array k e')) ∨ mkEl X.P e ws = ws.headD undefV ∧ ws.length = 1 := by
              have hpe := List.all_eq_true.1 hS e he'
              unfold plainT at hpe
              cases hue : X.P.underlying e with
              | none => rw [hue] at hpe; simp at hpe
              | some d =>
                rw [hue] at hpe
                cases d <;> simp at hpe
                case struct fs => exact .inl ⟨fs, rfl⟩
                case array k e' => exact .inr (.inl ⟨k, e', rfl⟩)
                all_goals exact .inr (.inr ⟨by simp [mkEl, hue], by simp_all⟩)
            have asAgg : mkEl X.P e ws = .agg ws → ∃ q : V × Value, (∃ ws, TV X.P n e ws ∧ q.1 = mkEl X.P e ws) ∧ q.1.isPure = true ∧ q.1.lies = true ∧ (∀ φ, VRel (free X) (still w φ) q.1 q.2) ∧
                q.2.cells.size = X.P.cellsOf e ∧ ∀ j c, q.2.cells[j]? = some c → w.cell? ((a.add (i * X.P.cellsOf e)).add j) = some c := by
              intro hmk
              refine ⟨(mkEl X.P e ws, .agg cs'.toArray), ⟨ws, g1, rfl⟩, ?_, ?_, fun φ => ?_, hcells _ (by simp [Value.cells])⟩
              · simp only [hmk, V.isPure, g3]
              · simp [hmk, V.lies, V.isAgg]
              · simp only [hmk, VRel]; exact ⟨g2, _, rfl, by simpa using g4 φ⟩
            rcases hagg with ⟨fs, hs⟩ | ⟨k, e', hs⟩ | ⟨hmk, h1⟩
            · exact asAgg (by simp [mkEl, hs])
            · exact asAgg (by simp [mkEl, hs])
            · match ws, h1, cs', hwl, g1, g2, g3, g4, hcells with
              | [x], _, [c], _, g1, g2, g3, g4, hcells =>
                have g4' : ∀ φ, VRel (free X) (still w φ) x c := fun φ => by have := g4 φ; simp only [VRels] at this; exact this.1
                have g2' : x.isCell = true := by simpa using g2
                refine ⟨(x, c), ⟨[x], g1, by simp [hmk]⟩, by simpa [V.arePure] using g3, by simp [V.lies, g2'], g4', hcells c ?_⟩
                rw [((g4' (fun _ => ⟨0, 0, 0⟩)).oneCell g2').2]
          obtain ⟨qs, q1, q2⟩ := list_of len each
          refine ⟨[.lit (X.P.cellsOf e) (qs.map (·.1))], ?_, rfl, rfl, fun φ => ?_⟩
          · simp only [TV, hu]
            refine .inr ⟨_, rfl, by simp [q1]; omega, fun x hx => ?_⟩
            obtain ⟨q, hq, rfl⟩ := List.mem_map.1 hx
            obtain ⟨i, hi⟩ := List.mem_iff_getElem?.1 hq
            exact (q2 i q hi).1
          · simp only [VRels, VRel, and_true]
            refine ⟨arePure_of' fun x hx => ?_, ?_, some a, cap, qs.map (·.2), by simp [q1], by simp [q1]; omega, ?_, ?_⟩
            · obtain ⟨q, hq, rfl⟩ := List.mem_map.1 hx
              obtain ⟨i, hi⟩ := List.mem_iff_getElem?.1 hq
              exact (q2 i q hi).2.1
            · rw [List.all_eq_true]
              intro x hx
              obtain ⟨q, hq, rfl⟩ := List.mem_map.1 hx
              obtain ⟨i, hi⟩ := List.mem_iff_getElem?.1 hq
              exact (q2 i q hi).2.2.1
            · refine VRels.of_get (by simp) fun i y u hy hu => ?_
              rw [List.getElem?_map] at hy hu
              cases hq : qs[i]? with
              | none => simp [hq] at hy
              | some q =>
                simp [hq] at hy hu
                subst hy hu
                exact (q2 i q hq).2.2.2.1 φ
            · cases qs with
              | nil => exact .inl rfl
              | cons q0 qs =>
                right
                have hcell : ∀ (i : Nat) (q : V × Value), (q0 :: qs)[i]? = some q → ∀ j c, q.2.cells[j]? = some c → w.cell? ((a.add (i * X.P.cellsOf e)).add j) = some c := fun i q hi => (q2 i q hi).2.2.2.2.2
                have hsz : ∀ (i : Nat) (q : V × Value), (q0 :: qs)[i]? = some q → q.2.cells.size = X.P.cellsOf e := fun i q hi => (q2 i q hi).2.2.2.2.1
                have h0 := hcell 0 q0 rfl 0 (q0.2.cells[0]'(by rw [hsz 0 q0 rfl]; exact hpos)) (Array.getElem?_eq_getElem _)
                obtain ⟨ab, ao, asp⟩ := a
                have hsp : asp = none ∧ ab < w.heap.size := by
                  simp only [Nat.zero_mul, Addr.add, if_true, World.cell?] at h0
                  split at h0
                  · rename_i c T f hh
                    split at h0
                    · simp at h0
                    · rename_i hn
                      exact ⟨by cases asp <;> simp_all, (Array.getElem?_eq_some_iff.1 hh).1⟩
                  · simp at h0
                obtain ⟨rfl, hlt⟩ := hsp
                refine ⟨ab, ao, rfl, ?_, hlt, fun i v hv => ?_⟩
                · rintro (⟨r, h1, _⟩ | h)
                  · simp [deadObj] at h1
                  · exact h
                · rw [List.getElem?_map] at hv
                  cases hq : (q0 :: qs)[i]? with
                  | none => simp [hq] at hv
                  | some q =>
                    simp [hq] at hv
                    subst hv
                    refine ⟨hsz i q hq, fun j c hc => ?_⟩
                    have := hcell i q hq j c hc
                    have hadd : ∀ o m, Addr.add ⟨ab, o, none⟩ m = ⟨ab, o + m, none⟩ := by
                      intro o m
                      simp only [Addr.add]
                      split
                      · rename_i h0; subst h0; rfl
                      · rfl
                    rw [hadd, hadd] at this
                    exact this
      | struct fs =>
        simp only [Bool.and_eq_true, beq_iff_eq] at hp
        obtain ⟨hcont, hall⟩ := hp
        obtain ⟨xs, m, hm, _, hlen, hxl, hf⟩ := DataW.trod_struct hu h
        obtain rfl : n = m := by omega
        have key : ∀ f ∈ fs.toList, ∃ vs, Good X w n f.type vs ((cs.drop f.offset).take (X.P.cellsOf f.type)) := by
          intro f hfm
          obtain ⟨i, hi⟩ := List.mem_iff_getElem?.1 hfm
          have hi' : fs[i]? = some f := by simpa using hi
          have h1 := hf i f hi'
          have hil : i < xs.length := by rw [hxl]; exact (Array.getElem?_eq_some_iff.1 hi').1
          rw [List.getElem?_eq_getElem hil] at h1
          exact ih f.type _ _ (by have := List.all_eq_true.1 hall f hfm; simpa using this) h1
        obtain ⟨vs, k1, k2, k3, k4⟩ := fields_good hcont hlen key
        exact ⟨vs, by simp only [TV, hu]; exact k1, k2, k3, fun φ => by simpa using k4 φ⟩
      | array k e =>
        simp only [Bool.and_eq_true, beq_iff_eq] at hp
        obtain ⟨he, hsz⟩ := hp
        obtain ⟨xs, m, hm, _, hlen, hxl, hf⟩ := DataW.trod_array hu h
        obtain rfl : n = m := by omega
        have key : ∀ i, i < 0 + k → ∃ vs, Good X w n e vs ((cs.drop (i * X.P.cellsOf e)).take (X.P.cellsOf e)) := by
          intro i hi
          have h1 := hf i (by omega)
          rw [List.getElem?_eq_getElem (by omega)] at h1
          exact ih e _ _ (by simpa using he) h1
        obtain ⟨vs, k1, k2, k3, k4⟩ := elems_good k 0 (by rw [hlen, hsz]; simp) key
        exact ⟨vs, by simp only [TV, hu]; exact k1, k2, k3, fun φ => by simpa using k4 φ⟩
      | _ => simp at hp
where
  arePure_of' {cs : List V} (h : ∀ x ∈ cs, V.isPure x = true) : V.arePure cs = true := by
    induction cs with
    | nil => rfl
    | cons c cs ih => simp only [V.arePure, Bool.and_eq_true]; exact ⟨h c (by simp), ih fun x hx => h x (by simp [hx])⟩

end
end Go.AM
