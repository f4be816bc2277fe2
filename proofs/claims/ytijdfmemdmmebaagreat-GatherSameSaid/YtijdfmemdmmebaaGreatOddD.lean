/-
  Texts of the proof, joined by program: SOddC, SOddD. Own work.
-/
import Derived.Test.YtijdfmemdmmebaaGreatOddB
import Derived.Test.YtijdfmemdmmebaaGreatOddC
import Derived.KernelRfl
set_option linter.unusedSimpArgs false
set_option linter.unusedVariables false
set_option maxRecDepth 20000
namespace Go.AM

theorem odd07_lit {L : List Edge} {F : List Face} (hL : L.length < 1000) (hF : F.length < 1000) (hl : ∀ e ∈ L, 0 < e.line.length ∧ e.line.length < 1000) (q0 q1 q2 : Int) :
    ∃ res, Ev E 94 [.lit 4 (L.map Edge.v), .lit 5 (F.map Face.v), q3V q0 q1 q2] res ∧ ∃ (L' : List Edge) (F' : List Face), L'.length ≤ L.length + 1 ∧ F'.length ≤ F.length + 1 ∧ (∀ e ∈ L', e.line.length < 1000) ∧ res = ⟨.tuple [.own 4 (L'.map Edge.v), .own 5 (F'.map Face.v)], []⟩ := by
  by_cases hn : L.length = 0
  · obtain ⟨cc, hcc, ec⟩ := modN_ev q0 13 (by decide) (by decide)
    by_cases h : cc = 0 ∨ cc = 1 ∨ cc = 2
    · exact odd07_A hL hF hl q0 q1 q2 cc ec h
    · rcases (by omega : (cc = 3 ∨ cc = 4) ∨ (cc = 5 ∨ cc = 6 ∨ cc = 7) ∨ (cc = 8 ∨ cc = 9 ∨ cc = 10) ∨ cc = 11 ∨ cc = 12) with h | h | h | h | h
      · exact odd07_B hL hF hl q0 q1 q2 cc ec h
      · exact odd07_C hL hF hl q0 q1 q2 cc ec h
      · exact odd07_D hL hF hl q0 q1 q2 cc ec h
      · exact odd07_E hL hF hl q0 q1 q2 cc ec h
      · exact odd07_F hL hF hl q0 q1 q2 cc ec h
  · obtain ⟨cc, hcc, ec⟩ := modN_ev q0 13 (by decide) (by decide)
    rcases (by omega : (cc = 0 ∨ cc = 1 ∨ cc = 2) ∨ (cc = 3 ∨ cc = 4) ∨ (cc = 5 ∨ cc = 6 ∨ cc = 7) ∨ (cc = 8 ∨ cc = 9 ∨ cc = 10) ∨ cc = 11 ∨ cc = 12) with h | h | h | h | h | h
    · exact odd07_A hL hF hl q0 q1 q2 cc ec h
    · exact odd07_B hL hF hl q0 q1 q2 cc ec h
    · exact odd07_C hL hF hl q0 q1 q2 cc ec h
    · exact odd07_D hL hF hl q0 q1 q2 cc ec h
    · exact odd07_E hL hF hl q0 q1 q2 cc ec h
    · exact odd07_F hL hF hl q0 q1 q2 cc ec h

/-- with no edges at all -/
theorem odd07_nil {F : List Face} (hF : F.length < 1000) (q0 q1 q2 : Int) :
    ∃ res, Ev E 94 [.nils, .lit 5 (F.map Face.v), q3V q0 q1 q2] res ∧ res = ⟨.tuple [.own 4 [], .own 5 (F.map Face.v)], []⟩ := by
  refine Ev.of_s E_94 (X_94 _) rfl ?_
  (conv => whnf); repeat' ((first | intro g | refine st ?_ | (first | refine b1 ?_ ?_ | refine b2 ?_ ?_ | refine Br.mk ?_ ?_) <;> intro hc | exact rfl | refine esc_nils ?_) <;> conv => whnf)
  rename_i g96 _
  refine LoopS.by (fun (_ : Nat) => ⟨[(0, .nils), (1, .lit 5 (F.map Face.v)), (5, .ptr 96 g96 0 0), (8, .sl 145 g 0 0), (9, vnat 0)], [(96, ⟨g96, 3, false, false, some [q3V q0 q1 q2]⟩), (145, ⟨g, 4, true, false, some []⟩)]⟩)
    (fun _ => True) (fun _ => 0) 0 (by (refine ⟨?_, ?_⟩ <;> repeat' (first | exact True.intro | refine ai ?_ | refine And.intro ?_ ?_))) trivial ?_
  intro _ _
  (conv => whnf); repeat' ((first | intro g | refine st ?_ | (first | refine b1 ?_ ?_ | refine b2 ?_ ?_ | refine Br.mk ?_ ?_) <;> intro hc | exact rfl) <;> conv => whnf)
  refine deep_esc (L := []) (by (repeat' (first | exact lk_self | assumption | refine (lk_no (by decide)).trans ?_ | refine (lk_dyn (by decide)).trans ?_ | refine (lk_lit (by decide)).trans ?_))) (by (repeat' (first | exact lk_self | assumption | refine (lk_no (by decide)).trans ?_ | refine (lk_dyn (by decide)).trans ?_ | refine (lk_lit (by decide)).trans ?_))) (fun σ ho => .nil) ?_
  intro r w
  (conv => whnf); repeat' ((first | intro g | refine Wit.mk _ (win_all (by first | (simp; done) | fail)) ?_ | refine st ?_ | (first | refine b1 ?_ ?_ | refine b2 ?_ ?_ | refine Br.mk ?_ ?_) <;> intro hc | exact rfl) <;> conv => whnf)
end Go.AM

set_option maxRecDepth 20000
namespace Go.AM

/-- what a change keeps -/
structure OddR (m m' : GMap) : Prop where
  edges : m'.edges.length ≤ m.edges.length + 1
  faces : m'.faces.length ≤ m.faces.length + 1
  ways : m'.ways.length ≤ m.ways.length + 1
  el : ∀ e ∈ m'.edges, e.line.length < 1000
  wl : ∀ w ∈ m'.ways, w.line.length < 1000
  places : m'.places.length ≤ m.places.length + 1 ∨ ∃ (k : Nat) (f : Nat → Place), k ≤ 82 ∧ (∀ i, i < 82 → (f i).id = 1000 + (i : Int)) ∧ m'.places = m.places ++ (List.range k).map f

/-- what the function gives -/
def GMap.vw (m : GMap) (a b : Bool) : V := .agg [if a then .lit 4 (m.edges.map Edge.v) else .own 4 (m.edges.map Edge.v), .own 5 (m.faces.map Face.v), if b then .lit 8 (m.ways.map Way.v) else .own 8 (m.ways.map Way.v), .own 7 (m.places.map Place.v)]

structure GMap.Small (m : GMap) : Prop where
  edges : m.edges.length < 900
  faces : m.faces.length < 900
  ways : m.ways.length < 900
  places : m.places.length < 900
  el : ∀ e ∈ m.edges, 0 < e.line.length ∧ e.line.length < 1000
  wl : ∀ w ∈ m.ways, w.line.length < 1000

section
variable {es es' : List Edge} {fs fs' : List Face} {ws ws' : List Way} {ps ps' : List Place} (h : GMap.Small ⟨es, fs, ws, ps⟩)
include h
theorem oddR_e (h1 : es'.length ≤ es.length + 1) (h2 : fs'.length ≤ fs.length + 1) (h3 : ∀ e ∈ es', e.line.length < 1000) : OddR ⟨es, fs, ws, ps⟩ ⟨es', fs', ws, ps⟩ :=
  ⟨h1, h2, Nat.le_succ _, h3, h.wl, .inl (Nat.le_succ _)⟩
theorem oddR_f (h2 : fs'.length ≤ fs.length + 1) : OddR ⟨es, fs, ws, ps⟩ ⟨es, fs', ws, ps⟩ :=
  ⟨Nat.le_succ _, h2, Nat.le_succ _, fun e he => (h.el e he).2, h.wl, .inl (Nat.le_succ _)⟩
theorem oddR_w (h2 : ws'.length ≤ ws.length + 1) (h3 : ∀ w ∈ ws', w.line.length < 1000) : OddR ⟨es, fs, ws, ps⟩ ⟨es, fs, ws', ps⟩ :=
  ⟨Nat.le_succ _, Nat.le_succ _, h2, fun e he => (h.el e he).2, h3, .inl (Nat.le_succ _)⟩
theorem oddR_p (h2 : ps'.length ≤ ps.length + 1 ∨ ∃ (k : Nat) (f : Nat → Place), k ≤ 82 ∧ (∀ i, i < 82 → (f i).id = 1000 + (i : Int)) ∧ ps' = ps ++ (List.range k).map f) : OddR ⟨es, fs, ws, ps⟩ ⟨es, fs, ws, ps'⟩ :=
  ⟨Nat.le_succ _, Nat.le_succ _, Nat.le_succ _, fun e he => (h.el e he).2, h.wl, h2⟩
theorem way_set {n : Nat} {w : Way} (hw : w.line.length < 1000) : ∀ x ∈ ws.set n w, x.line.length < 1000 := fun x hx => by
  rcases List.mem_or_eq_of_mem_set hx with hx | rfl
  · exact h.wl x hx
  · exact hw
theorem way_rm {n m : Nat} : ∀ x ∈ ws.take n ++ ws.drop m, x.line.length < 1000 := fun x hx => by
  rcases List.mem_append.1 hx with hx | hx
  · exact h.wl x (List.mem_of_mem_take hx)
  · exact h.wl x (List.mem_of_mem_drop hx)
theorem way_add {w : Way} (hw : w.line.length < 1000) : ∀ x ∈ ws ++ [w], x.line.length < 1000 := fun x hx => by
  rcases List.mem_append.1 hx with hx | hx
  · exact h.wl x hx
  · have : x = w := by simpa using hx
    subst this; exact hw
end
theorem over_rm {α : Type} {f : α → V} {l : List α} {j : Nat} (hj : j < l.length) {o n : Nat} (ho : o = j) (hn : n = l.length - 1) : window (overwrite (l.map f) o ((l.drop (j + 1)).map f)) 0 n = (l.take j ++ l.drop (j + 1)).map f := by
  subst ho; subst hn
  unfold overwrite
  rw [← List.map_take, ← List.map_append]
  exact win_pre (by simp; omega)
theorem win_set {α : Type} {f : α → V} {l : List α} {n m : Nat} (x : α) (hm : m = l.length) : window ((l.map f).set n (f x)) 0 m = (l.set n x).map f := by
  rw [← List.map_set]
  exact win_all (by simp [hm])
theorem win_tail {α : Type} {f : α → V} {l : List α} {j o n : Nat} (ho : o = j + 1) (hn : n = l.length - (j + 1)) : window (l.map f) o n = (l.drop (j + 1)).map f := by
  subst ho; subst hn
  unfold window
  rw [← List.map_drop, List.take_of_length_le (by simp)]
theorem over_le {l ys : List V} {o n : Nat} (ho : o ≤ l.length) (hn : n = o + ys.length) : n ≤ (overwrite l o ys).length := by
  subst hn
  unfold overwrite
  simp; omega
def treeP (i : Nat) : Place := ⟨IntKind.i64.wrap (1000 + (i : Int)), IntKind.i64.wrap (90 + (i : Int).tmod 3), 110, [116, 114, 101, 101], [], 1, 1⟩
theorem trees_snoc (ps : List Place) (i : Nat) : (ps ++ (List.range i).map treeP).map Place.v ++ [Place.v (treeP i)] = (ps ++ (List.range (i + 1)).map treeP).map Place.v := by
  rw [List.range_succ]; simp
end Go.AM
