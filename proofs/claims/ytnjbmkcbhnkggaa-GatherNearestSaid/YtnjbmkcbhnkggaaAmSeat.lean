/-
  A seat's tables, and how a row is closed from a run of the machine. Own work.
-/
import Derived.Test.YtnjbmkcbhnkggaaAmExt
import Derived.Test.YtnjbmkcbhnkggaaAmTab
import Derived.Test.YtnjbmkcbhnkggaaAmTrod
set_option linter.unusedSimpArgs false
namespace Go.AM
open Go Go.RowKit

def FnFact (X : TrEnv) (g : Nat) (af : AFunc) : Prop := ∃ F fn h c, X.fnum F = some g ∧ X.P.funcs[F]? = some fn ∧ (fn.name == "runtime.NumGoroutine") = false ∧ fn.body = some c ∧ trFunc X h fn = some af ∧ af.nparams ≤ fn.ntmps
def AllFacts (X : TrEnv) : List (Nat × AFunc) → Prop
  | [] => True
  | p :: ps => FnFact X p.1 p.2 ∧ AllFacts X ps
def ExtFact (X : TrEnv) (g : Nat) (fn : List V → Option Res) : Prop := ∃ F, X.fnum F = some g ∧ ∀ as res, fn as = some res → SoundCall X F as res
def AllExt (X : TrEnv) : List (Nat × (List V → Option Res)) → Prop
  | [] => True
  | p :: ps => ExtFact X p.1 p.2 ∧ AllExt X ps

theorem AllFacts.mem {X : TrEnv} : ∀ {tab : List (Nat × AFunc)}, AllFacts X tab → ∀ p ∈ tab, FnFact X p.1 p.2
  | [], _, p, hp => by simp at hp
  | q :: qs, h, p, hp => by
    rcases List.mem_cons.1 hp with rfl | hp
    · exact h.1
    · exact AllFacts.mem h.2 p hp
theorem AllExt.mem {X : TrEnv} : ∀ {tab : List (Nat × (List V → Option Res))}, AllExt X tab → ∀ p ∈ tab, ExtFact X p.1 p.2
  | [], _, p, hp => by simp at hp
  | q :: qs, h, p, hp => by
    rcases List.mem_cons.1 hp with rfl | hp
    · exact h.1
    · exact AllExt.mem h.2 p hp

def distinctB : List Nat → Bool
  | [] => true
  | x :: xs => !xs.contains x && distinctB xs
theorem distinctB_inj : ∀ {l : List Nat}, distinctB l = true → ∀ {i j x : Nat}, l[i]? = some x → l[j]? = some x → i = j
  | [], _, i, j, x, h, _ => by simp at h
  | y :: l, hd, i, j, x, hi, hj => by
    simp only [distinctB, Bool.and_eq_true, Bool.not_eq_true'] at hd
    have hno : ∀ k : Nat, l[k]? = some y → False := fun k hk => by
      have : l.contains y = true := by simpa using List.mem_of_getElem? hk
      rw [hd.1] at this; simp at this
    cases i with
    | zero =>
      cases j with
      | zero => rfl
      | succ j => simp at hi hj; subst hi; exact (hno j hj).elim
    | succ i =>
      cases j with
      | zero => simp at hi hj; subst hj; exact (hno i hi).elim
      | succ j => simp at hi hj; rw [distinctB_inj hd.2 hi hj]

theorem envOk_of {P : Program} {fl : List Nat} {tl : List (Nat × Nat)} (hf : distinctB fl = true) (ht : distinctB (tl.map (·.2)) = true) (hm : P.follows .mixedOrders = true) {tab : List (Nat × AFunc)} {ext : List (Nat × (List V → Option Res))} :
    let X : TrEnv := ⟨P, fun F => fl[F]?, fun t => (tl.find? (·.1 == t)).map (·.2)⟩
    AllFacts X tab → AllExt X ext → EnvOk X ⟨fnOf tab, extOf ext⟩ := by
  intro X h1 h2
  have hinjF : ∀ F F' g, X.fnum F = some g → X.fnum F' = some g → F = F' := fun F F' g h h' => distinctB_inj hf h h'
  refine ⟨fun t1 t2 k h h' => ?_, hm, fun f af F h hF => ?_, fun f as res F h hF => ?_⟩
  · simp only [X, Option.map_eq_some_iff] at h h'
    obtain ⟨p, hp, rfl⟩ := h
    obtain ⟨q, hq, hqp⟩ := h'
    have e1 := List.find?_some hp
    have e2 := List.find?_some hq
    obtain ⟨i, hi⟩ := List.mem_iff_getElem?.1 (List.mem_of_find?_eq_some hp)
    obtain ⟨j, hj⟩ := List.mem_iff_getElem?.1 (List.mem_of_find?_eq_some hq)
    have : i = j := distinctB_inj ht (i := i) (j := j) (x := p.2) (by simp [hi]) (by simp [hj, hqp])
    subst this
    rw [hi] at hj; injection hj with hj; subst hj
    simp at e1 e2; exact e1.symm.trans e2
  · simp only [fnOf, Option.map_eq_some_iff] at h
    obtain ⟨p, hp, rfl⟩ := h
    have e1 := List.find?_some hp
    simp at e1; subst e1
    obtain ⟨F', fn, hh, c, k1, k2, k3, k4, k5, k6⟩ := AllFacts.mem h1 p (List.mem_of_find?_eq_some hp)
    obtain rfl := hinjF F F' _ hF k1
    exact ⟨fn, hh, c, k2, k3, k4, k5, k6⟩
  · simp only [extOf] at h
    split at h
    · rename_i p hp
      have e1 := List.find?_some hp
      simp at e1; subst e1
      obtain ⟨F', k1, k2⟩ := AllExt.mem h2 p (List.mem_of_find?_eq_some hp)
      obtain rfl := hinjF F F' _ hF k1
      exact k2 as res h
    · simp at h

/-! ## a call of a law -/

theorem below_of_le {μ μ' : Mu} (h : Le μ μ') (hno : ∀ b, ¬ μ.own b) : Below μ.w.heap.size μ.w μ'.w :=
  ⟨h.os, h.tape, h.output, h.size, fun k hk => (h.keep k hk (hno k)).1⟩

/-- a law's call: arguments of plain data, a bool -/
theorem law_calls {X : TrEnv} {E : Env} (hE : EnvOk X E) {F g : Nat} (hF : X.fnum F = some g) {fn : Func} (hfn : X.P.funcs[F]? = some fn) (hname : (fn.name == "runtime.NumGoroutine") = false) {cd : Code} (hbody : fn.body = some cd)
    {args : List V} {b : Bool} (hev : Ev E g args ⟨.bool b, []⟩) (hp : V.arePure args = true) {w : World} {vals : List Value} (hv : ∀ φ, VRels (free X) (still w φ) args vals) :
    Calls X.P F vals.toArray w fun e w' => e = .returned (.bool b) ∧ Below w.heap.size w w' ∧ ∀ a, w'.frozen? a = w.frozen? a := by
  obtain ⟨n, hn⟩ := hev
  have hs : SoundCall X F args ⟨.bool b, []⟩ := call_sound_all hE n g F args _ hF hn
  have hO : (enter args).O = fun _ => deadObj := enter_O_pure hp
  have hT : ∀ (t : Nat) (a : V), args[t]? = some a → (enter args).T t = a := fun t a ha => by rw [enter_pure hp]; simp [List.getD, ha]
  have hvr := hv (fun _ => ⟨0, 0, 0⟩)
  have hU := hs (fun _ => False) w (fun _ => ⟨0, 0, 0⟩) vals hvr.length.symm (fun t v' hv' => by
    have hl : t < args.length := by rw [hvr.length]; exact (List.getElem?_eq_some_iff.1 hv').1
    obtain ⟨u, hu, hrel⟩ := hvr.get (List.getElem?_eq_getElem hl)
    rw [hv'] at hu; injection hu with hu; subst hu
    rw [hT t _ (List.getElem?_eq_getElem hl), hO]; exact hrel) (by
    rw [hO]
    exact ⟨fun r es h => by simp [deadObj] at h, fun r1 r2 _ h => by simp [deadObj] at h, fun r h => by simp [deadObj] at h, fun b h => h.elim⟩)
  have hcf : (callFunc F vals.toArray).run X.P w = .ok (.enter F vals.toArray) w := by
    simp [callFunc, Sem.run_bind, program, Sem.run, hfn, hbody]
    simpa using hname
  rw [hcf] at hU
  simp only [Upon] at hU
  refine Calls.mono hU fun e w' he => ?_
  cases e with
  | panicked c => exact he.elim
  | outgrown => exact he.elim
  | returned val =>
    obtain ⟨φ', T', O', v0, refs, k1, k2, k3, k4, k5, k6⟩ := he
    have hno : ∀ b, ¬ (Mu.mk w (fun _ => ⟨0, 0, 0⟩) (enter args).O).own b := fun b => by rw [hO]; rintro ⟨r, h, _⟩; simp [deadObj] at h
    refine ⟨?_, below_of_le k1 hno, fun a => ?_⟩
    · have := (k4.expR k2 k3).pure rfl
      simp only [VRel] at this
      rw [this]
    · rcases Nat.lt_or_ge a.block w.heap.size with hl | hl
      · exact k1.frozen a hl
      · rw [k1.fresh a hl, frozen_out hl]

end Go.AM
