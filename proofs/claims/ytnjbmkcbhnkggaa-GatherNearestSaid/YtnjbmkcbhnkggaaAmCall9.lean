/-
  Every operation, calls too, against the model's, given what the called functions do. Own work.
-/
import Derived.Test.YtnjbmkcbhnkggaaAmCall8
import Derived.Test.YtnjbmkcbhnkggaaAmExec
set_option linter.unusedSimpArgs false
namespace Go.AM
open Go Go.RowKit

section
variable {X : Ctx} {E : Env} {C : Oracle} {o : Oper} {a : Go.Act} {T : Nat → V} {μ : Mu} {v : V} {σ' : St}

theorem run_T {C : Oracle} {act : Act} : ∀ {σ σ' : St} {v : V}, act.run C σ = some (v, σ') → σ'.T = σ.T := by
  induction act with
  | done u => intro σ σ' v h; obtain ⟨_, rfl⟩ := run_done h; rfl
  | fail => intro σ σ' v h; exact absurd h run_fail
  | getT t k ih => intro σ σ' v h; exact ih _ h
  | getO r k ih => intro σ σ' v h; exact ih _ h
  | setO r o k ih => intro σ σ' v h; have := ih h; simpa using this
  | call f as k ih =>
    intro σ σ' v h
    simp only [Act.run] at h
    split at h
    · exact ih _ h
    · simp at h

theorem trOs_rels {h : Rel X T a μ} (O : Nat → Obj) : ∀ {xs : List Operand} {ys : List AOpd}, trOs X xs = some ys → VRels X μ (ys.map (evalOpd ⟨T, O⟩)) (xs.map a.eval)
  | [], ys, e => by simp [trOs] at e; subst e; simp [VRels]
  | x :: xs, ys, e => by
    simp only [trOs] at e
    split at e
    · rename_i y ys' h1 h2
      injection e with e; subst e
      simp only [List.map_cons, VRels]
      exact ⟨trO_rel h h1 O, trOs_rels (h := h) O h2⟩
    · simp at e

theorem call_hyp (hC : ∀ f F as res, X.fnum F = some f → C f as = some res → SoundCall X.toTrEnv F as res) {h : Hints} {dst : Nat} {c : Call} {aop : AOp} (hr : Rel X T a μ) (ho : o.op = .call c) (htr : trCall X h dst c = some aop) (hnc : aop.isCall = true)
    (hrun : (opAct E aop).run C ⟨T, μ.O⟩ = some (v, σ')) : σ'.T = T ∧ ∀ (next : Go.Act → World → Prop) (Q : Go.Exit → Go.Act → World → Prop),
    (∀ val w' φ', VRel X ⟨w', φ', σ'.O⟩ v val → Le μ ⟨w', φ', σ'.O⟩ → Objs X ⟨w', φ', σ'.O⟩ → next (a.put o.dst val) w') → o.wp X.P a μ.w next Q := by
  unfold trCall at htr
  split at htr
  · rename_i f hcal
    split at htr
    · rename_i f' as' hf has
      injection htr with htr; subst htr
      simp only [opAct, run_ev] at hrun
      split at hrun
      · rename_i f0 caps hfe
        rw [run_evs] at hrun
        have hfr := trO_rel hr hf μ.O
        rw [hfe] at hfr
        simp only [VRel] at hfr
        obtain ⟨F, cv, hF, hnum, hcaps⟩ := hfr
        have hargs := (trOs_rels (h := hr) μ.O has).append hcaps
        simp only [doCall] at hrun
        obtain ⟨as, rs, ws, h1, hp⟩ := prepare_sound hr.objs hargs hrun
        split at h1
        · rename_i hcond
          simp only [Bool.and_eq_true] at hcond
          obtain ⟨hap, hd⟩ := hcond
          simp only [Act.run] at h1
          split at h1
          · rename_i res hres
            have hS := hC f0 F as res hnum hres
            obtain ⟨e1, e2, e3⟩ := entry_sound hr.objs hp hap hd
            have hU := hS (banned X μ rs ws) μ.w (rowIn μ.φ ws) _ e1 e2 e3
            have hexec : (execOp a.eval o).run X.P μ.w = (callFunc F (List.map a.eval c.args.toList ++ cv.toList).toArray).run X.P μ.w := by
              have hea : (c.args.map a.eval) ++ cv = (List.map a.eval c.args.toList ++ cv.toList).toArray := by
                apply Array.toList_inj.1; simp
              simp only [execOp, ho, resolve, hcal, hF, Deferred.ofValue, Sem.run_bind]
              rw [← hea]
              simp [invoke, Sem.run]
            have key : ∀ val w', (∃ φ' T' O' v0 refs, Le ⟨μ.w, rowIn μ.φ ws, (enter as).O⟩ ⟨w', φ', O'⟩ ∧ Objs ⟨X.toTrEnv, banned X μ rs ws⟩ ⟨w', φ', O'⟩ ∧
                VRel ⟨X.toTrEnv, banned X μ rs ws⟩ ⟨w', φ', O'⟩ v0 val ∧ Exported as.length ⟨T', O'⟩ v0 res.val refs ∧ distinct refs = true ∧ outsOf O' 0 as = some res.outs) →
                σ'.T = T ∧ ∃ φ', VRel X ⟨w', φ', σ'.O⟩ v val ∧ Le μ ⟨w', φ', σ'.O⟩ ∧ Objs X ⟨w', φ', σ'.O⟩ := by
              rintro val w' ⟨φ', T', O', v0, refs, k1, k2, k3, k4, k5, k6⟩
              exact call_back hr.objs hp hap hd k1 k2 k3 k4 k5 k6 h1
            have hTT : σ'.T = T := run_T h1
            refine ⟨hTT, fun next Q hn => ?_⟩
            unfold Oper.wp
            rw [hexec]
            exact hU.upon fun val w' hv => by
              obtain ⟨_, φ', q1, q2, q3⟩ := key val w' hv
              exact hn val w' φ' q1 q2 q3
          · simp at h1
        · exact absurd h1 run_fail
      · exact absurd hrun run_fail
    · simp at htr
  · simp at htr
  · rename_i b hc
    exfalso
    revert htr
    split <;> (try split) <;> (try split) <;> (try split) <;> simp <;> (try (intro e; subst e; simp [AOp.isCall] at hnc)) <;> (try (intros; subst_vars; simp [AOp.isCall] at hnc)) <;> (try (rintro rfl; simp [AOp.isCall] at hnc))

theorem trBin_noCall {op : BinOp} {t : TypeId} {x y : AOpd} {aop : AOp} (h : trBin X op t x y = some aop) : aop.isCall = false := by
  unfold trBin at h
  repeat' split at h
  all_goals first
    | (injection h with h; subst h; rfl)
    | (simp only [Option.map_eq_some_iff] at h; obtain ⟨_, _, rfl⟩ := h; rfl)
    | (simp at h; done)

theorem map_noCall {α : Type} {x : Option α} {f : α → AOp} {aop : AOp} (h : x.map f = some aop) (hf : ∀ a, (f a).isCall = false) : aop.isCall = false := by
  cases x with
  | none => simp at h
  | some a => simp at h; subst h; exact hf a

theorem trOp_noCall {h : Hints} {dst : Nat} {op : Op} {aop : AOp} (hn : ∀ c, op ≠ .call c) (htr : trOp X h dst op = some aop) : aop.isCall = false := by
  unfold trOp at htr
  split at htr
  all_goals try exact absurd rfl (hn _)
  all_goals
    repeat' split at htr
    all_goals first
      | (injection htr with htr; subst htr; rfl)
      | exact map_noCall htr fun _ => rfl
      | exact trBin_noCall htr
      | (exfalso; simp at htr; done)

theorem op_hyp (hinj : ∀ t1 t2 k, X.tnum t1 = some k → X.tnum t2 = some k → t1 = t2) (hC : ∀ f F as res, X.fnum F = some f → C f as = some res → SoundCall X.toTrEnv F as res) : OpHyp X E C := by
  intro h dst o aop a T μ v σ' hr htr hrun
  cases hc : aop.isCall with
  | true =>
    cases hop : o.op with
    | call c =>
      rw [hop] at htr
      simp only [trOp] at htr
      exact call_hyp hC hr hop htr hc hrun
    | _ =>
      have := trOp_noCall (by rw [hop]; simp) htr
      rw [this] at hc; simp at hc
  | false =>
    obtain ⟨hT, val, w', φ', hrun', h1, h2, h3⟩ := op_sound hinj hr htr hc hrun
    refine ⟨hT, fun next Q hn => ?_⟩
    unfold Oper.wp
    rcases hrun' with hrun' | ⟨hrun', rfl⟩
    · rw [hrun']; exact hn _ _ _ h1 h2 h3
    · rw [hrun']; exact hn _ _ _ h1 h2 h3

end
end Go.AM
