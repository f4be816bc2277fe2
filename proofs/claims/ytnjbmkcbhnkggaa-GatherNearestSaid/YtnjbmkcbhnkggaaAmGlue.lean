/-
  From the machine's promise to what a row asks. Own work.
-/
import Derived.Test.YtnjbmkcbhnkggaaAmSound
import Derived.ProofKit
set_option linter.unusedSimpArgs false
namespace Go.AM
open Go Go.RowKit

theorem grown_of_le {μ μ' : Mu} (h : Le μ μ') (hno : ∀ b, ¬ μ.own b) : Go.RowKit.Grown μ.w μ'.w := by
  refine ⟨⟨h.os, h.output, fun i hi => ?_⟩, fun a => ?_, h.size⟩
  · rw [(h.keep i hi (hno i)).1]
    have := (World.keptBut_refl μ.w (fun _ => False)).2.2 i hi
    exact this
  · rcases Nat.lt_or_ge a.block μ.w.heap.size with hl | hl
    · exact h.frozen a hl
    · rw [h.fresh a hl, frozen_out hl]

end Go.AM
namespace Go.AM
open Go Go.RowKit

/-- arguments that lead to nothing that may be written, a result that holds no slice: the call as the model has it -/
theorem calls_of_sound {X : TrEnv} {F : FuncId} {fn : Func} (hfn : X.P.funcs[F]? = some fn) (hname : (fn.name == "runtime.NumGoroutine") = false) {cd : Code} (hbody : fn.body = some cd) {args : List V} {v : V} {outs : List (Nat × List V)} (hs : SoundCall X F args ⟨v, outs⟩)
    {w : World} {vals : List Value} (hp : V.arePure args = true) (hsc : V.isScalar v = true)
    (hv : ∀ φ, VRels ⟨X, fun _ => False⟩ ⟨w, φ, fun _ => deadObj⟩ args vals) :
    Calls X.P F vals.toArray w fun e w' => ∃ val, e = .returned val ∧ (∃ μ : Mu, VRel ⟨X, fun _ => False⟩ μ v val) ∧ Go.RowKit.Grown w w' := by
  have hpu : ∀ (t : Nat) (a : V), args[t]? = some a → V.isPure a = true := by
    have : ∀ (cs : List V), V.arePure cs = true → ∀ x ∈ cs, V.isPure x = true := by
      intro cs
      induction cs with
      | nil => simp
      | cons a as ih =>
        intro hh y hy
        simp only [V.arePure, Bool.and_eq_true] at hh
        rcases List.mem_cons.1 hy with rfl | hy
        · exact hh.1
        · exact ih hh.2 y hy
    exact fun t a ha => this _ hp a (List.mem_of_getElem? ha)
  have hO : (enter args).O = fun _ => deadObj := by
    funext r
    simp only [enter]
    cases ha : args[r]? with
    | none => rfl
    | some a => have := hpu r a ha; cases a <;> simp_all [V.isPure]
  have hvr := hv (fun _ => ⟨0, 0, 0⟩)
  have hU := hs (fun _ => False) w (fun _ => ⟨0, 0, 0⟩) vals hvr.length.symm (fun t v' hv' => by
    have hl : t < args.length := by rw [hvr.length]; exact (List.getElem?_eq_some_iff.1 hv').1
    obtain ⟨u, hu, hrel⟩ := hvr.get (List.getElem?_eq_getElem hl)
    rw [hv'] at hu; injection hu with hu; subst hu
    have he : (enter args).T t = args[t] := by
      have h1 : args[t]? = some args[t] := List.getElem?_eq_getElem hl
      have h2 := hpu t _ h1
      simp only [enter, h1]
      generalize args[t] = a at h2
      cases a <;> simp_all [V.isPure]
    rw [he, hO]; exact hrel) (by
    rw [hO]
    exact ⟨fun r es h => by simp [deadObj] at h, fun r1 r2 _ h => by simp [deadObj] at h, fun r h => by simp [deadObj] at h, fun b h => h.elim⟩)
  have hcf : (callFunc F vals.toArray).run X.P w = .ok (.enter F vals.toArray) w := by
    simp [callFunc, Sem.run_bind, program, Sem.run, hfn, hbody]
    simpa using hname
  rw [hcf] at hU
  simp only [Upon] at hU
  refine Calls.mono hU fun e w' he => ?_
  cases e with
  | panicked c => exact he.elim
  | outgrown => exact he.elim
  | returned val =>
    obtain ⟨φ', T', O', v0, refs, k1, k2, k3, k4, k5, k6⟩ := he
    refine ⟨val, rfl, ⟨_, ((k4.expR k2 k3).pure (isPure_of_isScalar hsc))⟩, ?_⟩
    exact grown_of_le k1 (fun b => by rw [hO]; rintro ⟨r, h, _⟩; simp [deadObj] at h)

end Go.AM
