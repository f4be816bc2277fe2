/-
  Drawn regions: whatever order the edges allow, the machine ends in the same state. Own work.
-/
import Derived.Test.YtnjbmkcbhnkggaaAmExec
set_option linter.unusedSimpArgs false
namespace Go.AM
open Go Go.RowKit

/-! ## what a step reads and writes -/
inductive Cell where
  | v (x : V)
  | o (x : Obj)
def St.at (σ : St) : Loc → Cell
  | .t n => .v (σ.T n)
  | .o n => .o (σ.O n)

theorem St.ext' {σ τ : St} (h : ∀ l, σ.at l = τ.at l) : σ = τ := by
  cases σ; cases τ
  congr
  · funext n; have := h (.t n); simpa [St.at] using this
  · funext n; have := h (.o n); simpa [St.at] using this

theorem run_frame {C : Oracle} : ∀ (act : Act) {σ τ σ' : St} {v : V}, act.run C σ = some (v, σ') → (∀ l ∈ (act.foot C σ).reads, σ.at l = τ.at l) →
    ∃ τ', act.run C τ = some (v, τ') ∧ act.foot C τ = act.foot C σ ∧ ∀ l, (l ∈ (act.foot C σ).writes → τ'.at l = σ'.at l) ∧ (l ∉ (act.foot C σ).writes → τ'.at l = τ.at l ∧ σ'.at l = σ.at l)
  | .done u, σ, τ, σ', v, h, _ => by
    simp only [Act.run, Option.some.injEq, Prod.mk.injEq] at h
    obtain ⟨rfl, rfl⟩ := h
    exact ⟨τ, rfl, rfl, fun l => ⟨fun hl => by simp [Act.foot] at hl, fun _ => ⟨rfl, rfl⟩⟩⟩
  | .fail, _, _, _, _, h, _ => by simp [Act.run] at h
  | .getT t k, σ, τ, σ', v, h, hr => by
    simp only [Act.run] at h
    have e : σ.T t = τ.T t := by have := hr (.t t) (by simp [Act.foot]); simpa [St.at] using this
    obtain ⟨τ', h1, h2, h3⟩ := run_frame (k (σ.T t)) h (fun l hl => hr l (by simp [Act.foot, hl]))
    exact ⟨τ', by simp only [Act.run, ← e]; exact h1, by simp only [Act.foot, ← e, h2], by simpa [Act.foot] using h3⟩
  | .getO r k, σ, τ, σ', v, h, hr => by
    simp only [Act.run] at h
    have e : σ.O r = τ.O r := by have := hr (.o r) (by simp [Act.foot]); simpa [St.at] using this
    obtain ⟨τ', h1, h2, h3⟩ := run_frame (k (σ.O r)) h (fun l hl => hr l (by simp [Act.foot, hl]))
    exact ⟨τ', by simp only [Act.run, ← e]; exact h1, by simp only [Act.foot, ← e, h2], by simpa [Act.foot] using h3⟩
  | .setO r o k, σ, τ, σ', v, h, hr => by
    simp only [Act.run] at h
    obtain ⟨τ', h1, h2, h3⟩ := run_frame k (τ := { τ with O := upd τ.O r o }) h (fun l hl => by
      have := hr l (by simp [Act.foot, hl])
      cases l with
      | t n => simpa [St.at] using this
      | o n =>
        simp only [St.at, Cell.o.injEq] at this ⊢
        by_cases hn : n = r
        · subst hn; simp [upd_same]
        · simp [upd_ne _ _ hn, this])
    refine ⟨τ', by simp only [Act.run]; exact h1, by simp only [Act.foot, h2], fun l => ⟨fun hl => ?_, fun hl => ?_⟩⟩
    · simp only [Act.foot, List.mem_cons] at hl
      by_cases hw : l ∈ (k.foot C { σ with O := upd σ.O r o }).writes
      · exact (h3 l).1 hw
      · obtain ⟨e1, e2⟩ := (h3 l).2 hw
        rcases hl with rfl | hl
        · rw [e1, e2]; simp [St.at, upd_same]
        · exact absurd hl hw
    · simp only [Act.foot, List.mem_cons, not_or] at hl
      obtain ⟨e1, e2⟩ := (h3 l).2 hl.2
      rw [e1, e2]
      cases l with
      | t n => simp [St.at]
      | o n =>
        have hn : n ≠ r := fun e => hl.1 (by rw [e])
        simp [St.at, upd_ne _ _ hn]
  | .call f as k, σ, τ, σ', v, h, hr => by
    simp only [Act.run] at h
    split at h
    · rename_i res hres
      obtain ⟨τ', h1, h2, h3⟩ := run_frame (k res) h (fun l hl => hr l (by simp [Act.foot, hres, hl]))
      exact ⟨τ', by simp only [Act.run, hres]; exact h1, by simp only [Act.foot, hres, h2], by simpa [Act.foot, hres] using h3⟩
    · simp at h

theorem put_at (σ : St) (dst : Option Nat) (v : V) (l : Loc) : (σ.put dst v).at l = if dst.any (fun d => l = .t d) then .v v else σ.at l := by
  cases dst with
  | none => simp [St.put]
  | some d =>
    cases l with
    | t n =>
      simp only [St.put, St.at, upd, Option.any_some, Loc.t.injEq]
      by_cases h : n = d <;> simp [h]
    | o n => simp [St.put, St.at]

theorem runOp_frame {E : Env} {C : Oracle} {o : AOper} {σ τ σ' : St} (h : runOp E C o σ = some σ') (hr : ∀ l ∈ (operFoot E C o σ).reads, σ.at l = τ.at l) :
    ∃ τ', runOp E C o τ = some τ' ∧ ∀ l, (l ∈ (operFoot E C o σ).writes → τ'.at l = σ'.at l) ∧ (l ∉ (operFoot E C o σ).writes → τ'.at l = τ.at l ∧ σ'.at l = σ.at l) := by
  simp only [runOp] at h
  split at h
  · rename_i v σ1 hact
    injection h with h
    subst h
    obtain ⟨τ1, h1, h2, h3⟩ := run_frame (operAct E o) hact hr
    refine ⟨τ1.put o.dst v, by simp only [runOp, h1], fun l => ?_⟩
    rw [put_at, put_at]
    have hw : (operFoot E C o σ).writes = (match o.dst with | some d => [Loc.t d] | none => []) ++ ((operAct E o).foot C σ).writes := rfl
    rw [hw]
    cases hd : o.dst with
    | none => simpa using h3 l
    | some d =>
      by_cases hl : l = .t d
      · subst hl; simp
      · refine ⟨fun hm => ?_, fun hm => ?_⟩
        · simp [hl] at hm
          simp [hl]
          exact (h3 l).1 hm
        · simp [hl] at hm
          simp [hl]
          exact (h3 l).2 hm
  · simp at h

/-! ## the run in the order of the text, laid out -/
structure Trace (E : Env) (C : Oracle) (as : List AOper) (S : Nat → St) (F : Nat → Foot) (W : Nat → List Nat) : Prop where
  step : ∀ (i : Nat) ao, as[i]? = some ao → runOp E C ao (S i) = some (S (i + 1)) ∧ F i = operFoot E C ao (S i) ∧ W i = ao.pre ++ ao.pre.flatMap W ∧ (∀ p ∈ ao.pre, p < i) ∧
    ∀ j, j < i → j ∈ W i ∨ (F j).clash (F i) = false

theorem fits_all {feet : List Foot} {wait : List Nat} {f : Foot} : ∀ {k : Nat}, fits feet wait f k = true → ∀ j, j < k → j ∈ wait ∨ (feet.getD j ⟨[], []⟩).clash f = false
  | 0, _, j, hj => by omega
  | k + 1, h, j, hj => by
    simp only [fits, Bool.and_eq_true, Bool.or_eq_true, Bool.not_eq_true'] at h
    by_cases e : j = k
    · subst e
      rcases h.1 with h1 | h1
      · exact .inl (by simpa using h1)
      · exact .inr h1
    · exact fits_all h.2 j (by omega)

theorem flatMap_congr' {α β : Type} {f g : α → List β} : ∀ {l : List α}, (∀ x ∈ l, f x = g x) → l.flatMap f = l.flatMap g
  | [], _ => rfl
  | x :: l, h => by
    simp only [List.flatMap_cons]
    rw [h x (by simp), flatMap_congr' fun y hy => h y (by simp [hy])]

theorem drawn_trace {E : Env} {C : Oracle} : ∀ (l : List AOper) (feet : List Foot) (before : List (List Nat)) (σ σ' : St), feet.length = before.length → runDrawn E C l feet before σ = some σ' →
    ∃ (S : Nat → St) (F : Nat → Foot) (W : Nat → List Nat), S feet.length = σ ∧ S (feet.length + l.length) = σ' ∧ (∀ k, k < feet.length → F k = feet.getD k ⟨[], []⟩ ∧ W k = before.getD k []) ∧
      ∀ (i : Nat) ao, l[i]? = some ao → runOp E C ao (S (feet.length + i)) = some (S (feet.length + i + 1)) ∧ F (feet.length + i) = operFoot E C ao (S (feet.length + i)) ∧
        W (feet.length + i) = ao.pre ++ ao.pre.flatMap W ∧ (∀ p ∈ ao.pre, p < feet.length + i) ∧ ∀ j, j < feet.length + i → j ∈ W (feet.length + i) ∨ (F j).clash (F (feet.length + i)) = false
  | [], feet, before, σ, σ', hl, h => by
    simp only [runDrawn, Option.some.injEq] at h
    subst h
    exact ⟨fun _ => σ, fun k => feet.getD k ⟨[], []⟩, fun k => before.getD k [], rfl, rfl, fun k _ => ⟨rfl, rfl⟩, fun i ao hi => by simp at hi⟩
  | o :: l, feet, before, σ, σ', hl, h => by
    simp only [runDrawn] at h
    split at h
    · rename_i hf
      simp only [Bool.and_eq_true, List.all_eq_true, decide_eq_true_eq] at hf
      split at h
      · rename_i σ1 h1
        obtain ⟨S, F, W, s1, s2, s3, s4⟩ := drawn_trace l (feet ++ [operFoot E C o σ]) (before ++ [closure before o.pre]) σ1 σ' (by simp [hl]) h
        simp only [List.length_append, List.length_singleton] at s1 s2 s3 s4
        -- the state ahead of this operation
        let S' : Nat → St := fun k => if k = feet.length then σ else S k
        have e1 : S' (feet.length + 1) = σ1 := by simp [S', s1]
        have e2 : ∀ k, feet.length < k → S' k = S k := fun k hk => by simp [S']; intro e; omega
        have hFk : F feet.length = operFoot E C o σ := by
          have := (s3 feet.length (by omega)).1
          simpa using this
        have hWk : W feet.length = closure before o.pre := by
          have := (s3 feet.length (by omega)).2
          rw [hl] at this
          simpa [hl] using this
        have hWlt : ∀ k, k < feet.length → W k = before.getD k [] := fun k hk => by
          have := (s3 k (by omega)).2
          rw [this]
          simp [List.getElem?_append_left (show k < before.length by omega)]
        have hFlt : ∀ k, k < feet.length → F k = feet.getD k ⟨[], []⟩ := fun k hk => by
          have := (s3 k (by omega)).1
          rw [this]
          simp [List.getElem?_append_left hk]
        refine ⟨S', F, W, by simp [S'], ?_, fun k hk => ⟨hFlt k hk, hWlt k hk⟩, fun i ao hi => ?_⟩
        · rw [e2 _ (by simp)]
          rw [← s2]; congr 1; simp; omega
        · cases i with
          | zero =>
            simp at hi
            subst hi
            simp only [Nat.add_zero]
            have hS : S' feet.length = σ := by simp [S']
            rw [hS, e1]
            refine ⟨h1, hFk, ?_, hf.2, fun j hj => ?_⟩
            · rw [hWk, closure]
              congr 1
              apply flatMap_congr'
              intro p hp
              exact (hWlt p (hf.2 p hp)).symm
            · rw [hFk, hWk, hFlt j hj]
              exact fits_all hf.1 j hj
          | succ i =>
            have := s4 i ao (by simpa using hi)
            have ea : feet.length + 1 + i = feet.length + (i + 1) := by omega
            rw [ea] at this
            rw [e2 _ (by omega), e2 _ (by omega)]
            exact this
      · simp at h
    · simp at h

/-! ## any order -/
/-- what a place holds when just the operations of D have run -/
def hist (S : Nat → St) (F : Nat → Foot) (D : Nat → Bool) (l : Loc) : Nat → Cell
  | 0 => (S 0).at l
  | i + 1 => if D i = true ∧ l ∈ (F i).writes then (S (i + 1)).at l else hist S F D l i

theorem hist_congr {S : Nat → St} {F : Nat → Foot} {D D' : Nat → Bool} {l : Loc} : ∀ {n : Nat}, (∀ i, i < n → l ∈ (F i).writes → D i = D' i) → hist S F D l n = hist S F D' l n
  | 0, _ => rfl
  | n + 1, h => by
    simp only [hist]
    rw [hist_congr fun i hi => h i (by omega)]
    by_cases hl : l ∈ (F n).writes
    · rw [h n (by omega) hl]
    · simp [hl]

theorem hist_stop {S : Nat → St} {F : Nat → Foot} {D : Nat → Bool} {l : Loc} {m : Nat} : ∀ {n : Nat}, m ≤ n → (∀ i, m ≤ i → i < n → l ∈ (F i).writes → D i = false) → hist S F D l n = hist S F D l m
  | 0, h, _ => by have : m = 0 := by omega
                  subst this; rfl
  | n + 1, h, hh => by
    by_cases e : m = n + 1
    · subst e; rfl
    · simp only [hist]
      rw [if_neg (by rintro ⟨h1, h2⟩; have := hh n (by omega) (by omega) h2; simp [this] at h1)]
      exact hist_stop (by omega) fun i h1 h2 => hh i h1 (by omega)

theorem hist_all {E : Env} {C : Oracle} {as : List AOper} {S : Nat → St} {F : Nat → Foot} {W : Nat → List Nat} (tr : Trace E C as S F W) {D : Nat → Bool} {l : Loc} :
    ∀ {n : Nat}, n ≤ as.length → (∀ i, i < n → D i = true) → hist S F D l n = (S n).at l
  | 0, _, _ => rfl
  | n + 1, hn, hD => by
    obtain ⟨ao, hao⟩ : ∃ ao, as[n]? = some ao := ⟨as[n], List.getElem?_eq_getElem (by omega)⟩
    obtain ⟨h1, h2, _⟩ := tr.step n ao hao
    simp only [hist, hD n (by omega), true_and]
    split
    · rfl
    · rename_i hl
      rw [hist_all tr (by omega) fun i hi => hD i (by omega)]
      obtain ⟨_, _, h3⟩ := runOp_frame h1 (τ := S n) fun _ _ => rfl
      rw [h2] at hl
      exact ((h3 l).2 hl).2.symm

theorem clash_of {a b : Foot} {l : Loc} (h : (l ∈ a.writes ∧ l ∈ b.writes) ∨ (l ∈ a.writes ∧ l ∈ b.reads) ∨ (l ∈ a.reads ∧ l ∈ b.writes)) : a.clash b = true := by
  simp only [Foot.clash, meets, Bool.or_eq_true, List.any_eq_true, List.contains_iff_mem]
  rcases h with ⟨h1, h2⟩ | ⟨h1, h2⟩ | ⟨h1, h2⟩
  · exact .inl (.inl ⟨l, h1, h2⟩)
  · exact .inl (.inr ⟨l, h1, h2⟩)
  · exact .inr ⟨l, h1, h2⟩

/-- the machine's state when the operations of D have run, in whatever order -/
structure AnyOrder (S : Nat → St) (F : Nat → Foot) (W : Nat → List Nat) (m : Nat) (D : Nat → Bool) (τ : St) : Prop where
  closed : ∀ i, D i = true → ∀ p ∈ W i, D p = true
  state : ∀ l, τ.at l = hist S F D l m

theorem anyOrder_step {E : Env} {C : Oracle} {as : List AOper} {S : Nat → St} {F : Nat → Foot} {W : Nat → List Nat} (tr : Trace E C as S F W) {D : Nat → Bool} {τ : St} (hA : AnyOrder S F W as.length D τ)
    {j : Nat} {ao : AOper} (hj : as[j]? = some ao) (hD : D j = false) (hpre : ∀ p ∈ ao.pre, D p = true) :
    ∃ τ', runOp E C ao τ = some τ' ∧ AnyOrder S F W as.length (fun i => i == j || D i) τ' := by
  obtain ⟨h1, h2, h3, h4, h5⟩ := tr.step j ao hj
  have hjl : j < as.length := (List.getElem?_eq_some_iff.1 hj).1
  have hW : ∀ p ∈ W j, D p = true := by
    rw [h3]
    intro p hp
    simp only [List.mem_append, List.mem_flatMap] at hp
    rcases hp with hp | ⟨q, hq, hp⟩
    · exact hpre p hp
    · exact hA.closed q (hpre q hq) p hp
  -- who touches what this operation touches is ahead of it, or comes later
  have key : ∀ i, i ≠ j → i < as.length → (F i).clash (F j) = true ∨ (F j).clash (F i) = true → (D i = true ↔ i < j) := by
    intro i hne hi hc
    rcases Nat.lt_or_ge i j with hlt | hge
    · refine ⟨fun _ => hlt, fun _ => ?_⟩
      rcases h5 i hlt with h | h
      · exact hW i h
      · rcases hc with hc | hc
        · rw [h] at hc; cases hc
        · exfalso
          have : (F i).clash (F j) = true := by
            simp only [Foot.clash, Bool.or_eq_true, meets, List.any_eq_true, List.contains_iff_mem] at hc ⊢
            rcases hc with (⟨l, a, b⟩ | ⟨l, a, b⟩) | ⟨l, a, b⟩
            · exact .inl (.inl ⟨l, b, a⟩)
            · exact .inr ⟨l, b, a⟩
            · exact .inl (.inr ⟨l, b, a⟩)
          rw [h] at this; cases this
    · have hgt : j < i := by omega
      refine ⟨fun hDi => ?_, fun h => by omega⟩
      obtain ⟨ao', hao'⟩ : ∃ ao', as[i]? = some ao' := ⟨as[i], List.getElem?_eq_getElem hi⟩
      obtain ⟨_, _, _, _, g5⟩ := tr.step i ao' hao'
      rcases g5 j hgt with h | h
      · have := hA.closed i hDi j h
        rw [hD] at this; cases this
      · exfalso
        rcases hc with hc | hc
        · have : (F j).clash (F i) = true := by
            simp only [Foot.clash, Bool.or_eq_true, meets, List.any_eq_true, List.contains_iff_mem] at hc ⊢
            rcases hc with (⟨l, a, b⟩ | ⟨l, a, b⟩) | ⟨l, a, b⟩
            · exact .inl (.inl ⟨l, b, a⟩)
            · exact .inr ⟨l, b, a⟩
            · exact .inl (.inr ⟨l, b, a⟩)
          rw [h] at this; cases this
        · rw [h] at hc; cases hc
  -- what it reads is as in the order of the text
  have agree : ∀ l ∈ (F j).reads, (S j).at l = τ.at l := by
    intro l hl
    rw [hA.state l]
    have e1 : hist S F D l as.length = hist S F D l j := hist_stop (by omega) fun i hi1 hi2 hw => by
      by_cases e : i = j
      · subst e; exact hD
      · have := key i e hi2 (.inl (clash_of (.inr (.inl ⟨hw, hl⟩))))
        cases hDi : D i with
        | false => rfl
        | true => have := this.1 hDi; omega
    have e2 : hist S F D l j = hist S F (fun i => decide (i < j)) l j := hist_congr fun i hi hw => by
      have := (key i (by omega) (by omega) (.inl (clash_of (.inr (.inl ⟨hw, hl⟩))))).2 hi
      simp [this, hi]
    rw [e1, e2]
    exact (hist_all tr (by omega) fun i hi => by simp [hi]).symm
  rw [h2] at agree
  obtain ⟨τ', k1, k2⟩ := runOp_frame h1 agree
  rw [← h2] at k2
  refine ⟨τ', k1, fun i hi p hp => ?_, fun l => ?_⟩
  · simp only [Bool.or_eq_true, beq_iff_eq] at hi ⊢
    rcases hi with rfl | hi
    · exact .inr (hW p hp)
    · exact .inr (hA.closed i hi p hp)
  · by_cases hl : l ∈ (F j).writes
    · rw [(k2 l).1 hl]
      have e1 : hist S F (fun i => i == j || D i) l as.length = hist S F (fun i => i == j || D i) l (j + 1) := hist_stop (by omega) fun i hi1 hi2 hw => by
        have hne : i ≠ j := by omega
        have := key i hne hi2 (.inl (clash_of (.inl ⟨hw, hl⟩)))
        cases hDi : D i with
        | false => simp [hne, hDi]
        | true => have := this.1 hDi; omega
      rw [e1]
      simp [hist, hl]
    · rw [((k2 l).2 hl).1, hA.state l]
      exact hist_congr fun i _ hw => by
        by_cases e : i = j
        · subst e; exact absurd hw hl
        · simp [e]

theorem anyOrder_end {E : Env} {C : Oracle} {as : List AOper} {S : Nat → St} {F : Nat → Foot} {W : Nat → List Nat} (tr : Trace E C as S F W) {D : Nat → Bool} {τ : St} (hA : AnyOrder S F W as.length D τ)
    (hall : ∀ i, i < as.length → D i = true) : τ = S as.length :=
  St.ext' fun l => by rw [hA.state l, hist_all tr (Nat.le_refl _) hall]

section
variable {X : Ctx} {E : Env} {C : Oracle} {μ0 : Mu} {n : Nat}

theorem drew_sim {σ : St} {a : Go.Act} {w : World} (h : Sim X μ0 n σ a w) : Sim X μ0 n σ a { w with drawn := w.drawn + 1 } := by
  obtain ⟨h1, h2, φ, hr, hle⟩ := h
  obtain ⟨led, hod⟩ := Le.drew (X := X) (μ := ⟨w, φ, σ.O⟩) hr.objs
  exact ⟨h1, h2, φ, ⟨fun t => VRel.mono led (hr.tmps t), hod⟩, hle.trans led⟩

theorem any_sound (H : OpHyp X E C) {h : Hints} {ops : Array Oper} {as : List AOper} (hn : h.n = n) (htr : trOpers X h ops ops.toList = some as) {S : Nat → St} {F : Nat → Foot} {W : Nat → List Nat}
    (tr : Trace E C as S F W) {Q : Go.Exit → Go.Act → World → Prop} (hQ : ∀ a w, Sim X μ0 n (S as.length) a w → Q .normal a w) :
    ∀ (fuel : Nat) (listed : Array Bool) (τ : St) (a : Go.Act) (w : World), listed.size = ops.size → ((List.range ops.size).filter fun i => !listed.getD i true).length ≤ fuel →
      AnyOrder S F W as.length (fun i => listed.getD i false) τ → Sim X μ0 n τ a w → wpAny X.P .any ops Q fuel listed a w := by
  obtain ⟨hlen, hget⟩ := trOpers_get htr
  have hlen' : as.length = ops.size := by simpa using hlen
  -- an operation that is ready
  have ready : ∀ (listed : Array Bool) (j : Nat), j ∈ Region.ready .any ops listed → ∃ o ao, ops[j]? = some o ∧ as[j]? = some ao ∧ trOper X h ops o = some ao ∧ listed.getD j true = false ∧ ∀ p ∈ ao.pre, listed.getD p false = true := by
    intro listed j hj
    simp only [Region.ready, List.mem_filter, List.mem_range, Bool.and_eq_true, Bool.not_eq_true'] at hj
    obtain ⟨hlt, hl, hr⟩ := hj
    have ho : ops[j]? = some ops[j] := by simp [hlt]
    obtain ⟨ao, hao, htro⟩ := hget j ops[j] (by simp [hlt])
    refine ⟨_, ao, ho, hao, htro, hl, fun p hp => ?_⟩
    rw [ho] at hr
    simp only [Option.map_some, Option.getD_some] at hr
    have hpre : ao.pre = (ops[j].after.toList.filter (Region.binds .any)).map (·.on) := by
      unfold trOper at htro
      simp only at htro
      split at htro
      · injection htro with htro; rw [← htro]
      · simp at htro
    rw [hpre] at hp
    simp only [List.mem_map, List.mem_filter] at hp
    obtain ⟨e, ⟨he1, he2⟩, rfl⟩ := hp
    rw [Array.all_eq_true'] at hr
    have := hr e (by simpa using he1)
    simpa [he2] using this
  -- where none is ready all have run
  have done : ∀ (listed : Array Bool), Region.ready .any ops listed = [] → listed.size = ops.size → ∀ i, i < as.length → listed.getD i false = true := by
    intro listed hnil hsz i
    induction i using Nat.strongRecOn with
    | _ i ih =>
      intro hi
      cases hl : listed.getD i false with
      | true => rfl
      | false =>
        exfalso
        have hlt : i < ops.size := by omega
        have hlt2 : i < listed.size := by omega
        have hlT : listed.getD i true = false := by simpa [hlt2] using hl
        obtain ⟨ao, hao, htro⟩ := hget i ops[i] (by simp [hlt])
        obtain ⟨_, _, _, hpl, _⟩ := tr.step i ao hao
        have hpre : ao.pre = (ops[i].after.toList.filter (Region.binds .any)).map (·.on) := by
          unfold trOper at htro
          simp only at htro
          split at htro
          · injection htro with htro; rw [← htro]
          · simp at htro
        have : i ∈ Region.ready .any ops listed := by
          simp only [Region.ready, List.mem_filter, List.mem_range, Bool.and_eq_true, Bool.not_eq_true']
          refine ⟨hlt, hlT, ?_⟩
          have ho : ops[i]? = some ops[i] := by simp [hlt]
          rw [ho]
          simp only [Option.map_some, Option.getD_some]
          rw [Array.all_eq_true']
          intro e he
          cases hb : Region.binds .any e with
          | false => simp
          | true =>
            have hm : e.on ∈ ao.pre := by
              rw [hpre]; simp only [List.mem_map, List.mem_filter]
              exact ⟨e, ⟨by simpa using he, hb⟩, rfl⟩
            have h1 := hpl _ hm
            simpa using ih e.on h1 (by omega)
        rw [hnil] at this
        cases this
  have finish : ∀ (listed : Array Bool) (τ : St) (a : Go.Act) (w : World), listed.size = ops.size → AnyOrder S F W as.length (fun i => listed.getD i false) τ → Sim X μ0 n τ a w → Region.ready .any ops listed = [] → Q .normal a w := by
    intro listed τ a w hsz hA hs hnil
    have := anyOrder_end tr hA (done listed hnil hsz)
    exact hQ a w (this ▸ hs)
  intro fuel
  induction fuel with
  | zero =>
    intro listed τ a w hsz hf hA hs
    have hnil : Region.ready .any ops listed = [] := by
      simp only [Nat.le_zero, List.length_eq_zero_iff, List.filter_eq_nil_iff, List.mem_range] at hf
      simp only [Region.ready, List.filter_eq_nil_iff, List.mem_range]
      intro i hi
      have := hf i hi
      simp at this
      simp [this]
    exact ⟨hnil, finish listed τ a w hsz hA hs hnil⟩
  | succ fuel ih =>
    intro listed τ a w hsz hf hA hs
    refine ⟨finish listed τ a w hsz hA hs, fun j hj => ?_⟩
    obtain ⟨o, ao, ho, hao, htro, hl, hpre⟩ := ready listed j hj
    have hjl : j < ops.size := by rw [← hlen']; exact (List.getElem?_eq_some_iff.1 hao).1
    have hlF : listed.getD j false = false := by
      have h1 : j < listed.size := by omega
      simpa [h1] using hl
    obtain ⟨τ', k1, k2⟩ := anyOrder_step tr hA hao hlF hpre
    refine oper_sound H ho htro hn hs k1 fun a' w' hs' => ih _ τ' a' w' (by simpa using hsz) ?_ ?_ hs'
    · -- one fewer
      have hsub : ∀ (L : List Nat), L.Nodup → j ∈ L → (L.filter fun i => !(listed.setIfInBounds j true).getD i true).length + 1 ≤ (L.filter fun i => !listed.getD i true).length := by
        intro L
        induction L with
        | nil => intro _ h; cases h
        | cons x L ihL =>
          intro hnd hm
          have hne : ∀ i, i ≠ j → (listed.setIfInBounds j true).getD i true = listed.getD i true := fun i hi => by
            simp [Array.getElem?_setIfInBounds_ne (fun e => hi e.symm)]
          have hjt : (listed.setIfInBounds j true).getD j true = true := by
            have h1 : j < listed.size := by omega
            simp [h1]
          by_cases e : x = j
          · subst e
            have hrest : (L.filter fun i => !(listed.setIfInBounds x true).getD i true) = L.filter fun i => !listed.getD i true := by
              apply List.filter_congr
              intro i hi
              have : i ≠ x := fun e => by rw [List.nodup_cons] at hnd; exact hnd.1 (e ▸ hi)
              rw [hne i this]
            simp only [List.filter_cons, hjt, hl, hrest]
            simp
          · have hm' : j ∈ L := by
              rcases List.mem_cons.1 hm with h1 | h1
              · exact absurd h1.symm e
              · exact h1
            have := ihL (List.nodup_cons.1 hnd).2 hm'
            simp only [List.filter_cons, hne x e]
            split
            · simp only [List.length_cons]; omega
            · omega
      have := hsub (List.range ops.size) List.nodup_range (by simp [hjl])
      omega
    · have hfun : (fun i => i == j || listed.getD i false) = fun i => (listed.setIfInBounds j true).getD i false := by
        funext i
        have h1 : j < listed.size := by omega
        by_cases e : i = j
        · subst e; simp [h1]
        · simp [e, Array.getElem?_setIfInBounds_ne (fun e' => e e'.symm)]
      rw [hfun] at k2
      exact k2

theorem drawn_sound (H : OpHyp X E C) (hm : X.P.follows .mixedOrders = true) {h : Hints} {ops : Array Oper} {as : List AOper} (hn : h.n = n) (htr : trOpers X h ops ops.toList = some as) {id : Nat}
    {σ σ' : St} {a : Go.Act} {w : World} (hs : Sim X μ0 n σ a w) (hrun : runDrawn E C as [] [] σ = some σ') {Q : Go.Exit → Go.Act → World → Prop} (hQ : ∀ a' w', Sim X μ0 n σ' a' w' → Q .normal a' w') :
    (Code.region id ops true).wp X.P Q a w := by
  obtain ⟨S, F, W, s1, s2, _, s4⟩ := drawn_trace as [] [] σ σ' rfl hrun
  simp only [List.length_nil, Nat.zero_add] at s1 s2 s4
  have tr : Trace E C as S F W := ⟨fun i ao hi => s4 i ao hi⟩
  refine wp_region_any hm ?_
  refine any_sound H hn htr tr (by rw [s2]; exact hQ) ops.size _ σ _ _ (by simp) ?_ ?_ (drew_sim hs)
  · exact Nat.le_trans (List.length_filter_le _ _) (by simp)
  · have hfalse : ∀ i, (Array.replicate ops.size false).getD i false = false := fun i => by
      simp only [Array.getD_eq_getD_getElem?, Array.getElem?_replicate]; split <;> rfl
    refine ⟨(fun i hi => by rw [hfalse i] at hi; cases hi), fun l => ?_⟩
    rw [← s1]
    have : hist S F (fun i => (Array.replicate ops.size false).getD i false) l as.length = hist S F (fun i => (Array.replicate ops.size false).getD i false) l 0 := hist_stop (Nat.zero_le _) fun i _ _ _ => hfalse i
    rw [this]; rfl

end
end Go.AM
