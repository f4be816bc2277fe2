/-
  What a run of the machine comes to, told from the end: rules to step through its code. Own work.
-/
import Derived.Test.YtnjbmkcbhnkggaaAmDefs
set_option linter.unusedSimpArgs false
namespace Go.AM

/-! ## more fuel, the same answer -/

def OLe (C C' : Oracle) : Prop := ∀ f as r, C f as = some r → C' f as = some r

theorem Act.run_mono {C C' : Oracle} (h : OLe C C') : ∀ (a : Act) (σ : St) (r : V × St), a.run C σ = some r → a.run C' σ = some r
  | .done v, σ, r, e => by simpa [Act.run] using e
  | .fail, σ, r, e => by simp [Act.run] at e
  | .getT t k, σ, r, e => by simp only [Act.run] at e ⊢; exact Act.run_mono h _ _ _ e
  | .getO t k, σ, r, e => by simp only [Act.run] at e ⊢; exact Act.run_mono h _ _ _ e
  | .setO t o k, σ, r, e => by simp only [Act.run] at e ⊢; exact Act.run_mono h _ _ _ e
  | .call f as k, σ, r, e => by
    simp only [Act.run] at e ⊢
    split at e
    · rename_i res hres
      rw [h f as res hres]
      exact Act.run_mono h _ _ _ e
    · simp at e

theorem Act.foot_mono {C C' : Oracle} (h : OLe C C') : ∀ (a : Act) (σ : St) (r : V × St), a.run C σ = some r → a.foot C' σ = a.foot C σ
  | .done v, σ, r, e => by simp [Act.foot]
  | .fail, σ, r, e => by simp [Act.run] at e
  | .getT t k, σ, r, e => by simp only [Act.run] at e; simp only [Act.foot]; rw [Act.foot_mono h _ _ _ e]
  | .getO t k, σ, r, e => by simp only [Act.run] at e; simp only [Act.foot]; rw [Act.foot_mono h _ _ _ e]
  | .setO t o k, σ, r, e => by simp only [Act.run] at e; simp only [Act.foot]; rw [Act.foot_mono h _ _ _ e]
  | .call f as k, σ, r, e => by
    simp only [Act.run] at e
    simp only [Act.foot]
    split at e
    · rename_i res hres
      rw [h f as res hres]
      simp only
      exact Act.foot_mono h _ _ _ e
    · simp at e

theorem runOp_mono {E : Env} {C C' : Oracle} (h : OLe C C') {o : AOper} {σ σ' : St} (e : runOp E C o σ = some σ') : runOp E C' o σ = some σ' := by
  unfold runOp at e ⊢
  split at e
  · rename_i v σ1 hr
    rw [Act.run_mono h _ _ _ hr]; exact e
  · simp at e

theorem runOps_mono {E : Env} {C C' : Oracle} (h : OLe C C') : ∀ {os : List AOper} {σ σ' : St}, runOps E C os σ = some σ' → runOps E C' os σ = some σ'
  | [], _, _, e => by simpa [runOps] using e
  | o :: os, _, _, e => by
    simp only [runOps] at e ⊢
    split at e
    · rename_i σ1 h1
      rw [runOp_mono h h1]
      exact runOps_mono h e
    · simp at e

theorem operFoot_mono {E : Env} {C C' : Oracle} (h : OLe C C') {o : AOper} {σ σ' : St} (e : runOp E C o σ = some σ') : operFoot E C' o σ = operFoot E C o σ := by
  unfold runOp at e
  split at e
  · rename_i v σ1 hr
    simp only [operFoot, Act.foot_mono h _ _ _ hr]
  · simp at e

theorem runDrawn_mono {E : Env} {C C' : Oracle} (h : OLe C C') : ∀ {os : List AOper} {feet : List Foot} {before : List (List Nat)} {σ σ' : St}, runDrawn E C os feet before σ = some σ' → runDrawn E C' os feet before σ = some σ'
  | [], _, _, _, _, e => by simpa [runDrawn] using e
  | o :: os, feet, before, σ, _, e => by
    simp only [runDrawn] at e ⊢
    split at e
    · rename_i hc
      split at e
      · rename_i σ1 h1
        rw [operFoot_mono h h1, runOp_mono h h1, if_pos hc]
        exact runDrawn_mono h e
      · simp at e
    · simp at e

def XLe (r r' : ACode → St → Option (AExit × St)) : Prop := ∀ c σ x, r c σ = some x → r' c σ = some x

theorem callWith_mono {E : Env} {r r' : ACode → St → Option (AExit × St)} (h : XLe r r') : OLe (callWith E r) (callWith E r') := by
  intro f as res e
  unfold callWith at e ⊢
  split at e
  · exact e
  · split at e
    · split at e
      · rename_i hl
        rw [if_pos hl]
        split at e
        · rename_i σ hx; rw [h _ _ _ hx]; exact e
        · rename_i σ hx; rw [h _ _ _ hx]; exact e
        · simp at e
      · simp at e
    · simp at e

theorem execWith_mono {E : Env} {C C' : Oracle} (hC : OLe C C') {r r' : ACode → St → Option (AExit × St)} (h : XLe r r') : XLe (execWith E C r) (execWith E C' r') := by
  intro c σ x e
  cases c with
  | skip => simpa [execWith] using e
  | region ops =>
    simp only [execWith, Option.map_eq_some_iff] at e ⊢
    obtain ⟨σ1, h1, h2⟩ := e
    exact ⟨σ1, runOps_mono hC h1, h2⟩
  | drawn ops =>
    simp only [execWith, Option.map_eq_some_iff] at e ⊢
    obtain ⟨σ1, h1, h2⟩ := e
    exact ⟨σ1, runDrawn_mono hC h1, h2⟩
  | seq a b =>
    simp only [execWith] at e ⊢
    split at e
    · rename_i σ1 h1; rw [h _ _ _ h1]; exact h _ _ _ e
    · rename_i hn
      rw [h _ _ _ e]
      rcases x with ⟨ex, σ1⟩
      cases ex with
      | normal => exact absurd e (by simpa using hn σ1)
      | _ => rfl
  | cond c a b =>
    simp only [execWith] at e ⊢
    split at e
    · exact h _ _ _ e
    · exact h _ _ _ e
    · simp at e
  | block id b =>
    simp only [execWith] at e ⊢
    split at e
    · rename_i id' σ1 h1; rw [h _ _ _ h1]; exact e
    · rename_i hn
      rw [h _ _ _ e]
      rcases x with ⟨ex, σ1⟩
      cases ex with
      | exit id' => exact absurd e (by simpa using hn id' σ1)
      | _ => rfl
  | loop b =>
    simp only [execWith] at e ⊢
    split at e
    · rename_i σ1 h1; rw [h _ _ _ h1]; exact h _ _ _ e
    · rename_i hn
      rw [h _ _ _ e]
      rcases x with ⟨ex, σ1⟩
      cases ex with
      | normal => exact absurd e (by simpa using hn σ1)
      | _ => rfl
  | exit id => simpa [execWith] using e
  | ret => simpa [execWith] using e
  | scope b => simp only [execWith] at e ⊢; exact h _ _ _ e
  | bad => simp [execWith] at e

theorem exec_succ {E : Env} : ∀ n, XLe (exec E n) (exec E (n + 1))
  | 0 => by intro c σ x e; simp [exec] at e
  | n + 1 => by
    have ih := exec_succ (E := E) n
    have := execWith_mono (E := E) (callWith_mono (E := E) ih) ih
    intro c σ x e
    simp only [exec] at e ⊢
    exact this _ _ _ e

theorem exec_mono {E : Env} {n m : Nat} (h : n ≤ m) : XLe (exec E n) (exec E m) := by
  induction h with
  | refl => exact fun _ _ _ e => e
  | step _ ih => exact fun c σ x e => exec_succ _ _ _ _ (ih c σ x e)

theorem call_mono {E : Env} {n m : Nat} (h : n ≤ m) : OLe (call E n) (call E m) := callWith_mono (exec_mono h)

/-! ## the rules -/

/-- a call comes to this -/
def Ev (E : Env) (f : Nat) (args : List V) (res : Res) : Prop := ∃ n, call E n f args = some res

def St.setO (σ : St) (r : Nat) (o : Obj) : St := { σ with O := upd σ.O r o }

/-- simp does not look into what this names -/
inductive Tg {α β : Type} (a : α) (b : β) : Type
  | mk

def wpa (E : Env) (a : Act) (σ : St) (Q : V → St → Prop) (_ : Tg σ Q := .mk) : Prop := ∃ n v σ', a.run (call E n) σ = some (v, σ') ∧ Q v σ'
def wpo (E : Env) (os : List AOper) (σ : St) (Q : St → Prop) (_ : Tg os (σ, Q) := .mk) : Prop := ∃ n σ', runOps E (call E n) os σ = some σ' ∧ Q σ'
def wpc (E : Env) (c : ACode) (σ : St) (Q : AExit → St → Prop) (_ : Tg c (σ, Q) := .mk) : Prop := ∃ n e σ', exec E n c σ = some (e, σ') ∧ Q e σ'
/-- with what is read and written -/
def wpf (E : Env) (a : Act) (σ : St) (Q : V → St → List Loc → List Loc → Prop) (_ : Tg σ Q := .mk) : Prop := ∃ n v σ', a.run (call E n) σ = some (v, σ') ∧ Q v σ' (a.foot (call E n) σ).reads (a.foot (call E n) σ).writes
def wpd (E : Env) (feet : List Foot) (before : List (List Nat)) (os : List AOper) (σ : St) (Q : St → Prop) : Prop := ∃ n σ', runDrawn E (call E n) os feet before σ = some σ' ∧ Q σ'

section
variable {E : Env} {σ : St}

theorem wpa_done {v : V} {Q : V → St → Prop} : wpa E (.done v) σ Q = Q v σ := by
  simp only [wpa, Act.run, eq_iff_iff]
  constructor
  · rintro ⟨_, _, _, h, q⟩; injection h with h; injection h with h1 h2; subst h1 h2; exact q
  · exact fun q => ⟨0, _, _, rfl, q⟩
theorem wpa_fail {Q : V → St → Prop} : wpa E .fail σ Q = False := by
  simp [wpa, Act.run]
theorem wpa_getT {t : Nat} {k : V → Act} {Q : V → St → Prop} : wpa E (.getT t k) σ Q = wpa E (k (σ.T t)) σ Q := by
  simp [wpa, Act.run]
theorem wpa_getO {t : Nat} {k : Obj → Act} {Q : V → St → Prop} : wpa E (.getO t k) σ Q = wpa E (k (σ.O t)) σ Q := by
  simp [wpa, Act.run]
theorem wpa_setO {t : Nat} {o : Obj} {k : Act} {Q : V → St → Prop} : wpa E (.setO t o k) σ Q = wpa E k (σ.setO t o) Q := by
  simp [wpa, Act.run, St.setO]
theorem wpa_call {f : Nat} {as : List V} {k : Res → Act} {Q : V → St → Prop} : wpa E (.call f as k) σ Q = ∃ res, Ev E f as res ∧ wpa E (k res) σ Q := by
  simp only [wpa, Act.run, eq_iff_iff]
  constructor
  · rintro ⟨n, v, σ', h, q⟩
    split at h
    · rename_i res hr; exact ⟨res, ⟨n, hr⟩, n, v, σ', h, q⟩
    · simp at h
  · rintro ⟨res, ⟨n, hn⟩, m, v, σ', h, q⟩
    refine ⟨max n m, v, σ', ?_, q⟩
    rw [call_mono (Nat.le_max_left n m) _ _ _ hn]
    exact Act.run_mono (call_mono (Nat.le_max_right n m)) _ _ _ h
theorem wpa_ite {c : Prop} [Decidable c] {a b : Act} {Q : V → St → Prop} : wpa E (if c then a else b) σ Q = if c then wpa E a σ Q else wpa E b σ Q := by
  split <;> rfl
theorem wpa_give {v : Option V} {Q : V → St → Prop} : wpa E (give v) σ Q = match v with | some v => Q v σ | none => False := by
  cases v <;> simp [give, wpa_done, wpa_fail]
theorem wpa_mono {a : Act} {Q Q' : V → St → Prop} (h : wpa E a σ Q) (k : ∀ v σ', Q v σ' → Q' v σ') : wpa E a σ Q' := by
  obtain ⟨n, v, σ', h1, h2⟩ := h
  exact ⟨n, v, σ', h1, k _ _ h2⟩

theorem wpo_nil {Q : St → Prop} : wpo E [] σ Q = Q σ := by simp [wpo, runOps]
theorem wpo_cons {o : AOper} {os : List AOper} {Q : St → Prop} : wpo E (o :: os) σ Q = wpa E (operAct E o) σ fun v σ' => wpo E os (σ'.put o.dst v) Q := by
  simp only [wpo, wpa, runOps, runOp, eq_iff_iff]
  constructor
  · rintro ⟨n, σ2, h, q⟩
    split at h
    · rename_i σ1 h1
      split at h1
      · rename_i v σ0 h0
        injection h1 with h1; subst h1
        exact ⟨n, v, σ0, h0, n, σ2, h, q⟩
      · simp at h1
    · simp at h
  · rintro ⟨n, v, σ0, h0, m, σ2, h, q⟩
    refine ⟨max n m, σ2, ?_, q⟩
    rw [Act.run_mono (call_mono (Nat.le_max_left n m)) _ _ _ h0]
    exact runOps_mono (call_mono (Nat.le_max_right n m)) h
theorem wpo_mono {os : List AOper} {Q Q' : St → Prop} (h : wpo E os σ Q) (k : ∀ σ', Q σ' → Q' σ') : wpo E os σ Q' := by
  obtain ⟨n, σ', h1, h2⟩ := h
  exact ⟨n, σ', h1, k _ h2⟩

theorem wpf_done {v : V} {Q : V → St → List Loc → List Loc → Prop} : wpf E (.done v) σ Q = Q v σ [] [] := by
  simp only [wpf, Act.run, Act.foot, eq_iff_iff]
  constructor
  · rintro ⟨_, _, _, h, q⟩; injection h with h; injection h with h1 h2; subst h1 h2; exact q
  · exact fun q => ⟨0, _, _, rfl, q⟩
theorem wpf_fail {Q : V → St → List Loc → List Loc → Prop} : wpf E .fail σ Q = False := by
  simp [wpf, Act.run]
theorem wpf_getT {t : Nat} {k : V → Act} {Q : V → St → List Loc → List Loc → Prop} : wpf E (.getT t k) σ Q = wpf E (k (σ.T t)) σ fun v σ' r w => Q v σ' (.t t :: r) w := by
  simp [wpf, Act.run, Act.foot]
theorem wpf_getO {t : Nat} {k : Obj → Act} {Q : V → St → List Loc → List Loc → Prop} : wpf E (.getO t k) σ Q = wpf E (k (σ.O t)) σ fun v σ' r w => Q v σ' (.o t :: r) w := by
  simp [wpf, Act.run, Act.foot]
theorem wpf_setO {t : Nat} {o : Obj} {k : Act} {Q : V → St → List Loc → List Loc → Prop} : wpf E (.setO t o k) σ Q = wpf E k (σ.setO t o) fun v σ' r w => Q v σ' r (.o t :: w) := by
  simp [wpf, Act.run, Act.foot, St.setO]
theorem wpf_call {f : Nat} {as : List V} {k : Res → Act} {Q : V → St → List Loc → List Loc → Prop} : wpf E (.call f as k) σ Q = ∃ res, Ev E f as res ∧ wpf E (k res) σ Q := by
  simp only [wpf, eq_iff_iff]
  constructor
  · rintro ⟨n, v, σ', h, q⟩
    simp only [Act.run, Act.foot] at h q
    split at h
    · rename_i res hr
      simp only [hr] at q
      exact ⟨res, ⟨n, hr⟩, n, v, σ', h, q⟩
    · simp at h
  · rintro ⟨res, ⟨n, hn⟩, m, v, σ', h, q⟩
    have e1 := call_mono (E := E) (Nat.le_max_left n m) _ _ _ hn
    have e2 := Act.run_mono (call_mono (E := E) (Nat.le_max_right n m)) _ _ _ h
    have e3 := Act.foot_mono (call_mono (E := E) (Nat.le_max_right n m)) _ _ _ h
    refine ⟨max n m, v, σ', ?_, ?_⟩
    · simp only [Act.run, e1]; exact e2
    · simp only [Act.foot, e1, e3]; exact q
theorem wpf_ite {c : Prop} [Decidable c] {a b : Act} {Q : V → St → List Loc → List Loc → Prop} : wpf E (if c then a else b) σ Q = if c then wpf E a σ Q else wpf E b σ Q := by
  split <;> rfl
theorem wpf_give {v : Option V} {Q : V → St → List Loc → List Loc → Prop} : wpf E (give v) σ Q = match v with | some v => Q v σ [] [] | none => False := by
  cases v <;> simp [give, wpf_done, wpf_fail]

theorem wpd_nil {feet : List Foot} {before : List (List Nat)} {Q : St → Prop} : wpd E feet before [] σ Q = Q σ := by simp [wpd, runDrawn]
theorem wpd_cons {feet : List Foot} {before : List (List Nat)} {o : AOper} {os : List AOper} {Q : St → Prop} :
    wpd E feet before (o :: os) σ Q = wpf E (operAct E o) σ fun v σ' r w =>
      (fits feet (closure before o.pre) ⟨r, (match o.dst with | some d => [.t d] | none => []) ++ w⟩ feet.length && o.pre.all (· < feet.length)) = true ∧
      wpd E (feet ++ [⟨r, (match o.dst with | some d => [.t d] | none => []) ++ w⟩]) (before ++ [closure before o.pre]) os (σ'.put o.dst v) Q := by
  have key : ∀ n, runDrawn E (call E n) (o :: os) feet before σ = if (fits feet (closure before o.pre) (operFoot E (call E n) o σ) feet.length && o.pre.all (· < feet.length)) = true then
      (match runOp E (call E n) o σ with | some σ' => runDrawn E (call E n) os (feet ++ [operFoot E (call E n) o σ]) (before ++ [closure before o.pre]) σ' | none => none) else none := fun n => rfl
  have key2 : ∀ n v σ0, (operAct E o).run (call E n) σ = some (v, σ0) → runOp E (call E n) o σ = some (σ0.put o.dst v) := fun n v σ0 h => by simp only [runOp, h]
  simp only [wpd, wpf, eq_iff_iff]
  constructor
  · rintro ⟨n, σ2, h, q⟩
    rw [key n] at h
    by_cases hc : (fits feet (closure before o.pre) (operFoot E (call E n) o σ) feet.length && o.pre.all (· < feet.length)) = true
    · rw [if_pos hc] at h
      cases h0 : (operAct E o).run (call E n) σ with
      | none => simp [runOp, h0] at h
      | some p =>
        obtain ⟨v, σ0⟩ := p
        rw [key2 n v σ0 h0] at h
        exact ⟨n, v, σ0, h0, hc, n, σ2, h, q⟩
    · rw [if_neg hc] at h; simp at h
  · rintro ⟨n, v, σ0, h0, hc, m, σ2, h, q⟩
    refine ⟨max n m, σ2, ?_, q⟩
    have e3 : operFoot E (call E (max n m)) o σ = operFoot E (call E n) o σ := by
      simp only [operFoot, Act.foot_mono (call_mono (E := E) (Nat.le_max_left n m)) _ _ _ h0]
    have hc' : (fits feet (closure before o.pre) (operFoot E (call E n) o σ) feet.length && o.pre.all (· < feet.length)) = true := hc
    rw [key, e3, if_pos hc', key2 _ v σ0 (Act.run_mono (call_mono (Nat.le_max_left n m)) _ _ _ h0)]
    exact runDrawn_mono (call_mono (Nat.le_max_right n m)) h

/-! ### code -/

/-- what follows code that ends normally -/
def andThen (Q : AExit → St → Prop) (k : St → Prop) (_ : Tg Q k := .mk) : AExit → St → Prop
  | .normal, σ => k σ
  | .exit id, σ => Q (.exit id) σ
  | .ret, σ => Q .ret σ
/-- the end of a block -/
def outOf (id : Nat) (Q : AExit → St → Prop) (_ : Tg id Q := .mk) : AExit → St → Prop
  | .exit id', σ => if id' = id then Q .normal σ else Q (.exit id') σ
  | .normal, σ => Q .normal σ
  | .ret, σ => Q .ret σ

theorem wpc_mono {c : ACode} {Q Q' : AExit → St → Prop} (h : wpc E c σ Q) (k : ∀ e σ', Q e σ' → Q' e σ') : wpc E c σ Q' := by
  obtain ⟨n, e, σ', h1, h2⟩ := h
  exact ⟨n, e, σ', h1, k _ _ h2⟩

theorem wpc_skip {Q : AExit → St → Prop} : wpc E .skip σ Q = Q .normal σ := by
  simp only [wpc, eq_iff_iff]
  constructor
  · rintro ⟨n, e, σ', h, q⟩
    cases n <;> simp [exec, execWith] at h
    obtain ⟨rfl, rfl⟩ := h; exact q
  · exact fun q => ⟨1, _, _, by simp [exec, execWith], q⟩
theorem wpc_exit {id : Nat} {Q : AExit → St → Prop} : wpc E (.exit id) σ Q = Q (.exit id) σ := by
  simp only [wpc, eq_iff_iff]
  constructor
  · rintro ⟨n, e, σ', h, q⟩
    cases n <;> simp [exec, execWith] at h
    obtain ⟨rfl, rfl⟩ := h; exact q
  · exact fun q => ⟨1, _, _, by simp [exec, execWith], q⟩
theorem wpc_ret {Q : AExit → St → Prop} : wpc E .ret σ Q = Q .ret σ := by
  simp only [wpc, eq_iff_iff]
  constructor
  · rintro ⟨n, e, σ', h, q⟩
    cases n <;> simp [exec, execWith] at h
    obtain ⟨rfl, rfl⟩ := h; exact q
  · exact fun q => ⟨1, _, _, by simp [exec, execWith], q⟩
theorem wpc_scope {b : ACode} {Q : AExit → St → Prop} : wpc E (.scope b) σ Q = wpc E b σ Q := by
  simp only [wpc, eq_iff_iff]
  constructor
  · rintro ⟨n, e, σ', h, q⟩
    cases n with
    | zero => simp [exec] at h
    | succ n => simp only [exec, execWith] at h; exact ⟨n, e, σ', h, q⟩
  · rintro ⟨n, e, σ', h, q⟩
    exact ⟨n + 1, e, σ', by simpa only [exec, execWith] using h, q⟩
theorem wpc_region {ops : List AOper} {Q : AExit → St → Prop} : wpc E (.region ops) σ Q = wpo E ops σ (Q .normal) := by
  simp only [wpc, wpo, eq_iff_iff]
  constructor
  · rintro ⟨n, e, σ', h, q⟩
    cases n with
    | zero => simp [exec] at h
    | succ n =>
      simp only [exec, execWith, Option.map_eq_some_iff] at h
      obtain ⟨σ1, h1, h2⟩ := h
      injection h2 with h2 h3
      subst h2 h3
      exact ⟨n, _, h1, q⟩
  · rintro ⟨n, σ', h, q⟩
    exact ⟨n + 1, _, σ', by simp only [exec, execWith, Option.map_eq_some_iff]; exact ⟨σ', h, rfl⟩, q⟩
theorem wpc_drawn {ops : List AOper} {Q : AExit → St → Prop} : wpc E (.drawn ops) σ Q = wpd E [] [] ops σ (Q .normal) := by
  simp only [wpc, wpd, eq_iff_iff]
  constructor
  · rintro ⟨n, e, σ', h, q⟩
    cases n with
    | zero => simp [exec] at h
    | succ n =>
      simp only [exec, execWith, Option.map_eq_some_iff] at h
      obtain ⟨σ1, h1, h2⟩ := h
      injection h2 with h2 h3
      subst h2 h3
      exact ⟨n, _, h1, q⟩
  · rintro ⟨n, σ', h, q⟩
    exact ⟨n + 1, _, σ', by simp only [exec, execWith, Option.map_eq_some_iff]; exact ⟨σ', h, rfl⟩, q⟩
theorem wpc_seq {a b : ACode} {Q : AExit → St → Prop} : wpc E (.seq a b) σ Q = wpc E a σ (andThen Q fun σ' => wpc E b σ' Q) := by
  simp only [wpc, eq_iff_iff]
  constructor
  · rintro ⟨n, e, σ', h, q⟩
    cases n with
    | zero => simp [exec] at h
    | succ n =>
      simp only [exec, execWith] at h
      split at h
      · rename_i σ1 h1
        exact ⟨n, _, _, h1, n, e, σ', h, q⟩
      · rename_i hn
        refine ⟨n, e, σ', h, ?_⟩
        cases e with
        | normal => exact absurd h (by simpa using hn σ')
        | exit id => exact q
        | ret => exact q
  · rintro ⟨n, e, σ1, h, q⟩
    cases e with
    | normal =>
      obtain ⟨m, e, σ', h', q⟩ := q
      refine ⟨max n m + 1, e, σ', ?_, q⟩
      simp only [exec, execWith, exec_mono (Nat.le_max_left n m) _ _ _ h]
      exact exec_mono (Nat.le_max_right n m) _ _ _ h'
    | exit id => exact ⟨n + 1, _, _, by simp only [exec, execWith, h], q⟩
    | ret => exact ⟨n + 1, _, _, by simp only [exec, execWith, h], q⟩
theorem wpc_cond {c : AOpd} {a b : ACode} {Q : AExit → St → Prop} : wpc E (.cond c a b) σ Q = match evalOpd σ c with | .bool true => wpc E a σ Q | .bool false => wpc E b σ Q | _ => False := by
  simp only [wpc, eq_iff_iff]
  constructor
  · rintro ⟨n, e, σ', h, q⟩
    cases n with
    | zero => simp [exec] at h
    | succ n =>
      simp only [exec, execWith] at h
      split at h
      · rename_i he; simp only [he]; exact ⟨n, e, σ', h, q⟩
      · rename_i he; simp only [he]; exact ⟨n, e, σ', h, q⟩
      · simp at h
  · intro h
    split at h
    · rename_i he
      obtain ⟨n, e, σ', h, q⟩ := h
      exact ⟨n + 1, e, σ', by simp only [exec, execWith, he]; exact h, q⟩
    · rename_i he
      obtain ⟨n, e, σ', h, q⟩ := h
      exact ⟨n + 1, e, σ', by simp only [exec, execWith, he]; exact h, q⟩
    · exact h.elim
theorem wpc_block {id : Nat} {b : ACode} {Q : AExit → St → Prop} : wpc E (.block id b) σ Q = wpc E b σ (outOf id Q) := by
  simp only [wpc, eq_iff_iff]
  constructor
  · rintro ⟨n, e, σ', h, q⟩
    cases n with
    | zero => simp [exec] at h
    | succ n =>
      simp only [exec, execWith] at h
      split at h
      · rename_i id' σ1 h1
        refine ⟨n, _, _, h1, ?_⟩
        simp only [outOf]
        split at h
        · rename_i hi
          simp only [Option.some.injEq, Prod.mk.injEq] at h
          obtain ⟨rfl, rfl⟩ := h
          simp only [hi, if_true]; exact q
        · rename_i hi
          simp only [Option.some.injEq, Prod.mk.injEq] at h
          obtain ⟨rfl, rfl⟩ := h
          simp only [hi, if_false]; exact q
      · rename_i hn
        refine ⟨n, e, σ', h, ?_⟩
        cases e with
        | exit id' => exact absurd h (by simpa using hn id' σ')
        | normal => exact q
        | ret => exact q
  · rintro ⟨n, e, σ1, h, q⟩
    cases e with
    | exit id' =>
      simp only [outOf] at q
      by_cases hi : id' = id
      · simp only [hi, if_true] at q
        exact ⟨n + 1, _, _, by simp only [exec, execWith, h, hi, if_true], q⟩
      · simp only [hi, if_false] at q
        exact ⟨n + 1, _, _, by simp only [exec, execWith, h, hi, if_false], q⟩
    | normal => exact ⟨n + 1, _, _, by simp only [exec, execWith, h], q⟩
    | ret => exact ⟨n + 1, _, _, by simp only [exec, execWith, h], q⟩
theorem wpc_loop {b : ACode} {Q : AExit → St → Prop} : wpc E (.loop b) σ Q = wpc E b σ (andThen Q fun σ' => wpc E (.loop b) σ' Q) := by
  simp only [wpc, eq_iff_iff]
  constructor
  · rintro ⟨n, e, σ', h, q⟩
    cases n with
    | zero => simp [exec] at h
    | succ n =>
      simp only [exec, execWith] at h
      split at h
      · rename_i σ1 h1
        exact ⟨n, _, _, h1, n, e, σ', h, q⟩
      · rename_i hn
        refine ⟨n, e, σ', h, ?_⟩
        cases e with
        | normal => exact absurd h (by simpa using hn σ')
        | exit id => exact q
        | ret => exact q
  · rintro ⟨n, e, σ1, h, q⟩
    cases e with
    | normal =>
      obtain ⟨m, e, σ', h', q⟩ := q
      refine ⟨max n m + 1, e, σ', ?_, q⟩
      simp only [exec, execWith, exec_mono (Nat.le_max_left n m) _ _ _ h]
      exact exec_mono (Nat.le_max_right n m) _ _ _ h'
    | exit id => exact ⟨n + 1, _, _, by simp only [exec, execWith, h], q⟩
    | ret => exact ⟨n + 1, _, _, by simp only [exec, execWith, h], q⟩

/-- a loop, by what holds ahead of each round, and a number that gets less -/
theorem wpc_loop_of {b : ACode} {Q : AExit → St → Prop} (I : Nat → St → Prop) (hI : ∀ k σ, I k σ → wpc E b σ (andThen Q fun σ' => ∃ j, j < k ∧ I j σ')) :
    ∀ (k : Nat) (σ : St), I k σ → wpc E (.loop b) σ Q := by
  intro k
  induction k using Nat.strongRecOn with
  | _ k ih =>
    intro σ h
    rw [wpc_loop]
    refine wpc_mono (hI k σ h) fun e σ' he => ?_
    cases e with
    | normal => obtain ⟨j, hj, h'⟩ := he; exact ih j hj σ' h'
    | exit id => exact he
    | ret => exact he

/-- how a function ends -/
def fin (rs : List ARes) (args : List V) (res : Res) : AExit → St → Prop
  | .exit _, _ => False
  | .normal, σ => leave ⟨0, 0, [], rs, .skip⟩ args σ = some res
  | .ret, σ => leave ⟨0, 0, [], rs, .skip⟩ args σ = some res

theorem Ev.of_wpc {f np nt : Nat} {ms : List (Option Nat)} {rs : List ARes} {b : ACode} {args : List V} {res : Res} (hf : E.fn f = some ⟨np, nt, ms, rs, b⟩) (hx : E.ext f args = none) (hl : args.length = np)
    (h : wpc E b (enter args) (fin rs args res)) : Ev E f args res := by
  obtain ⟨n, e, σ', h1, h2⟩ := h
  refine ⟨n, ?_⟩
  unfold call callWith
  rw [hx]; simp only [hf, hl, if_true, h1]
  cases e with
  | normal => exact h2
  | ret => exact h2
  | exit id => exact h2.elim

/-- how a function ends, where more than one result will do -/
def finE (rs : List ARes) (args : List V) (P : Res → Prop) (e : AExit) (σ : St) : Prop := ∃ res, P res ∧ fin rs args res e σ

theorem Ev.of_wpc_ex {f np nt : Nat} {ms : List (Option Nat)} {rs : List ARes} {b : ACode} {args : List V} {P : Res → Prop} (hf : E.fn f = some ⟨np, nt, ms, rs, b⟩) (hx : E.ext f args = none) (hl : args.length = np)
    (h : wpc E b (enter args) (finE rs args P)) : ∃ res, P res ∧ Ev E f args res := by
  obtain ⟨n, e, σ', h1, res, hp, h2⟩ := h
  exact ⟨res, hp, Ev.of_wpc hf hx hl ⟨n, e, σ', h1, h2⟩⟩

theorem Ev.ext {f : Nat} {args : List V} {res : Res} (h : E.ext f args = some res) : Ev E f args res := ⟨0, by simp [call, callWith, h]⟩

end
end Go.AM
