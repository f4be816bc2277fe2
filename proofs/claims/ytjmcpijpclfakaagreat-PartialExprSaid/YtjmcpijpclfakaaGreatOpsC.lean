/-
  Texts of the proof, joined by program: AmCall8, AmCall9, AmSound, AmExt, AmGlue, AmTrod, AmSeat. Own work.
-/
import Derived.Test.YtjmcpijpclfakaaGreatOpsB
import Derived.Test.YtjmcpijpclfakaaGreatBase
import Derived.Laws.Externs
import Derived.Laws.Cover3
import GoSem.Extern.MathSqrt
import Derived.ProofKit
import Derived.ChangeArms
import Derived.OpenShut
import Derived.Deep.Slices
import Derived.Carry
set_option linter.unusedSimpArgs false
set_option linter.unusedVariables false
namespace Go.AM
open Go Go.RowKit
section
variable {X : Ctx} {μ μ1 : Mu} {r0 : Nat} {C : Oracle} {T : Nat → V}
theorem call_back {as : List V} {vals : List Value} {rs : List Nat} {ws : List WRef} (ho : Objs X μ) (hp : Prep X μ r0 0 as vals rs ws) (hap : apart rs (ws.map (·.r)) = true) (hd : distinct (ws.map (·.r)) = true)
  (le : Le ⟨μ.w, rowIn μ.φ ws, (enter as).O⟩ μ1) (h1 : Objs ⟨X.toTrEnv, banned X μ rs ws⟩ μ1) {res : Res} {refs : List Nat} {v0 : V} {val : Value} {T' : Nat → V} (hv : VRel ⟨X.toTrEnv, banned X μ rs ws⟩ μ1 v0 val)
  (hexp : Exported as.length ⟨T', μ1.O⟩ v0 res.val refs) (hdr : distinct refs = true) (houts : outsOf μ1.O 0 as = some res.outs) {thaw : Bool} {r : Nat} {v : V} {σ' : St}
  (hrun : (if res.val.isScalar && res.outs.all (fun o => V.areScalar o.2) then putOuts ws res.outs fun gs => importRes thaw r gs res.val .done else freezeAll rs (putOuts ws res.outs fun gs => importRes thaw r gs res.val .done)).run C ⟨T, μ.O⟩ = some (v, σ')) :
  σ'.T = T ∧ ∃ φ', VRel X ⟨μ1.w, φ', σ'.O⟩ v val ∧ Le μ ⟨μ1.w, φ', σ'.O⟩ ∧ Objs X ⟨μ1.w, φ', σ'.O⟩ := by
 have hR := hexp.expR h1 hv
 have hi := hp.inc
 have hrow : ∀ w ∈ ws, w.fresh = none → (μ1.O w.i).gen = 0 → μ1.φ w.i = μ.φ w.r := fun w hw hfr hg => by
  have hg0 : ((enter as).O w.i).gen = 0 := by
   rcases entry_obj hp w.i with h | ⟨_, _, _, _, _, _, h, _⟩ | ⟨_, _, _, h, _⟩
   ·rw [h]; rfl
   ·exact h
   ·exact h
  obtain ⟨e1, _⟩ := le.row w.i (by rw [hg]; exact hg0.symm)
  rw [e1]
  have := rowIn_mem (φ := μ.φ) hi w hw
  rw [hfr] at this
  exact this
 have start : ∀ (Of : Nat → Obj) (S : Nat → Prop), Taken ⟨X.toTrEnv, banned X μ rs ws⟩ ⟨μ.w, μ.φ, Of⟩ μ1 (fun j => j < 0 ∧ S j) (fun _ => none) μ.φ Of := fun Of S =>
  ⟨fun _ _ => ⟨rfl, rfl⟩, fun _ _ e => by simp at e, fun _ _ _ e => by simp at e⟩
 split at hrun
 ·rename_i hsc
  simp only [Bool.and_eq_true] at hsc
  obtain ⟨hs1, hs2⟩ := hsc
  have hS : ∀ w ∈ ws, ∀ es, (μ1.O w.i).es = some es → V.areScalar es = true := fun w hw es he => by
   obtain ⟨g, es', k1, k2⟩ := outs_mem hp houts w hw
   rw [he] at k1; injection k1 with k1; subst k1
   exact (List.all_eq_true.1 hs2) _ k2
  obtain ⟨A, φ, O, gs, k1, k2, k3, k4, k5, k6⟩ := putOuts_sound (μf := ⟨μ.w, μ.φ, μ.O⟩) h1 hrow rfl (fun _ _ => rfl) (S := fun j => ∀ es, (μ1.O j).es = some es → V.areScalar es = true) hS hp houts (start μ.O _) (fun w hw => hw) (fun _ _ => rfl) hd hrun
  have hpu := isPure_of_isScalar hs1
  unfold importRes at k1
  rw [if_pos hpu] at k1
  obtain ⟨rfl, rfl⟩ := run_done k1
  obtain ⟨b1, b2⟩ := back_view ho hp le h1 (Of := μ.O) ho (fun _ _ => rfl) k2 k3 k4 (fun j hj => .inl hj.2)
  exact ⟨rfl, φ, scalar_transfer (X := ⟨X.toTrEnv, banned X μ rs ws⟩) (μ := μ1) (X' := X) (μ' := ⟨μ1.w, φ, O⟩) rfl hs1 (hR.pure hpu), b1, b2⟩
 ·obtain ⟨Of, f1, f2, f3, f4, f5⟩ := freezeAll_sound (X := X) (w := μ.w) (φ := μ.φ) rs ho hrun
  have hOf : ∀ w ∈ ws, Of w.r = μ.O w.r := fun w hw => f4 _ fun hr => by
   have := List.all_eq_true.1 hap w.r (List.mem_map.2 ⟨w, hw, rfl⟩)
   simp [hr] at this
  obtain ⟨A, φ, O, gs, k1, k2, k3, k4, k5, k6⟩ := putOuts_sound (μf := ⟨μ.w, μ.φ, Of⟩) h1 hrow rfl hOf (S := fun _ => True) (fun _ _ => trivial) hp houts (start Of _) (fun w hw => hw) (fun _ _ => rfl) hd f1
  obtain ⟨hT, hres⟩ := importRes_sound h1 k2 k6 hR (fun j _ hn hu => by have := hu.1; omega) hdr k1
  have ownT : ∀ {U : Nat → Prop} {A : Nat → Option Nat} {φ : Nat → Row} {O : Nat → Obj}, Taken ⟨X.toTrEnv, banned X μ rs ws⟩ ⟨μ.w, μ.φ, Of⟩ μ1 U A φ O → (∀ w ∈ ws, A w.r ≠ none) → (∀ j, U j → thaw = true ∨ j < as.length) →
    ∀ b, Own X ⟨μ1.w, φ, O⟩ b → after ⟨X.toTrEnv, banned X μ rs ws⟩ μ1 as.length thaw b := by
   intro U A φ O ht hA hU b hb
   rcases hb with ⟨r', q1, q2, q3, q4⟩ | hb
   ·simp only at q1 q2 q3 q4
    cases e : A r' with
    | none =>
     obtain ⟨n1, n2⟩ := ht.non r' e
     simp only at n1 n2
     rw [n1] at q1 q2; rw [n2] at q3 q4
     have hr1 : r' ∉ rs := fun h => by rw [f5 r' h] at q2; simp at q2
     have hr2 : r' ∉ ws.map (·.r) := fun h => by
      obtain ⟨w, hw, e'⟩ := List.mem_map.1 h
      exact hA w hw (by rw [e']; exact e)
     rw [f4 r' hr1] at q1 q2
     exact .inl (.inr ⟨r', hr1, hr2, q1, q2, q3, q4⟩)
    | some j =>
     obtain ⟨t, hu⟩ := ht.som r' j e
     obtain ⟨b1, b2⟩ := t.blk q3
     exact .inr ⟨j, hU j hu, t.live.1, t.live.2, b1, by rw [← b2]; exact q4⟩
   ·exact .inl (.inl hb)
  refine ⟨hT, ?_⟩
  rcases hres with ⟨hpu, rfl, hO, hvv⟩ | ⟨A', φ', m1, m2, m3, m4⟩
  ·have hown := ownT k2 k4 (fun j hj => .inr (by have := hj.1; omega))
   have hown' : ∀ b, Own X ⟨μ1.w, φ, O⟩ b → Own ⟨X.toTrEnv, banned X μ rs ws⟩ μ1 b := fun b hb => after_sub (φ := φ) (O := O) (.inr (hown b hb))
   obtain ⟨b1, b2⟩ := back_view ho hp le h1 (Of := Of) f3 hOf k2 k3 k4 (fun j hj => .inr hown')
   rw [hO]
   exact ⟨φ, pure_transfer (X := ⟨X.toTrEnv, banned X μ rs ws⟩) (μ := μ1) (B := X.ban) (μ' := ⟨μ1.w, φ, O⟩) rfl hown' hpu hvv, f2.trans b1, b2⟩
  ·have hA' : ∀ w ∈ ws, A' w.r ≠ none := fun w hw => m3 _ (k4 w hw)
   have hown := ownT m1 hA' (fun j hj => hj.elim (fun h => .inr (by have := h.1; omega)) fun h => .inl h.1)
   have hown' : ∀ b, Own X ⟨μ1.w, φ', σ'.O⟩ b → Own ⟨X.toTrEnv, banned X μ rs ws⟩ μ1 b := fun b hb => after_sub (φ := φ') (O := σ'.O) (.inr (hown b hb))
   obtain ⟨b1, b2⟩ := back_view ho hp le h1 (Of := Of) f3 hOf m1 (k3.trans m2) hA' (fun j hj => .inr hown')
   refine ⟨φ', weaken (X := ⟨X.toTrEnv, after ⟨X.toTrEnv, banned X μ rs ws⟩ μ1 as.length thaw⟩) (μ := quiet μ1 φ' σ'.O) (X' := X) (μ' := ⟨μ1.w, φ', σ'.O⟩) rfl rfl rfl (fun _ => ⟨rfl, rfl⟩) (fun b hb => .inr (hown b hb)) m4, f2.trans b1, b2⟩
end
end Go.AM
namespace Go.AM
open Go Go.RowKit
section
variable {X : Ctx} {E : Env} {C : Oracle} {o : Oper} {a : Go.Act} {T : Nat → V} {μ : Mu} {v : V} {σ' : St}
theorem run_T {C : Oracle} {act : Act} : ∀ {σ σ' : St} {v : V}, act.run C σ = some (v, σ') → σ'.T = σ.T := by
 induction act with
 | done u => intro σ σ' v h; obtain ⟨_, rfl⟩ := run_done h; rfl
 | fail => intro σ σ' v h; exact absurd h run_fail
 | getT t k ih => intro σ σ' v h; exact ih _ h
 | getO r k ih => intro σ σ' v h; exact ih _ h
 | setO r o k ih => intro σ σ' v h; have := ih h; simpa using this
 | call f as k ih =>
  intro σ σ' v h
  simp only [Act.run] at h
  split at h
  ·exact ih _ h
  ·simp at h
theorem trOs_rels {h : Rel X T a μ} (O : Nat → Obj) : ∀ {xs : List Operand} {ys : List AOpd}, trOs X xs = some ys → VRels X μ (ys.map (evalOpd ⟨T, O⟩)) (xs.map a.eval)
 | [], ys, e => by simp [trOs] at e; subst e; simp [VRels]
 | x :: xs, ys, e => by
  simp only [trOs] at e
  split at e
  ·rename_i y ys' h1 h2
   injection e with e; subst e
   simp only [List.map_cons, VRels]
   exact ⟨trO_rel h h1 O, trOs_rels (h := h) O h2⟩
  ·simp at e
theorem call_hyp (hC : ∀ f F as res, X.fnum F = some f → C f as = some res → SoundCall X.toTrEnv F as res) {h : Hints} {dst : Nat} {c : Call} {aop : AOp} (hr : Rel X T a μ) (ho : o.op = .call c) (htr : trCall X h dst c = some aop) (hnc : aop.isCall = true)
  (hrun : (opAct E aop).run C ⟨T, μ.O⟩ = some (v, σ')) : σ'.T = T ∧ ∀ (next : Go.Act → World → Prop) (Q : Go.Exit → Go.Act → World → Prop),
  (∀ val w' φ', VRel X ⟨w', φ', σ'.O⟩ v val → Le μ ⟨w', φ', σ'.O⟩ → Objs X ⟨w', φ', σ'.O⟩ → next (a.put o.dst val) w') → o.wp X.P a μ.w next Q := by
 unfold trCall at htr
 split at htr
 ·rename_i f hcal
  split at htr
  ·rename_i f' as' hf has
   injection htr with htr; subst htr
   simp only [opAct, run_ev] at hrun
   split at hrun
   ·rename_i f0 caps hfe
    rw [run_evs] at hrun
    have hfr := trO_rel hr hf μ.O
    rw [hfe] at hfr
    simp only [VRel] at hfr
    obtain ⟨F, cv, hF, hnum, hcaps⟩ := hfr
    have hargs := (trOs_rels (h := hr) μ.O has).append hcaps
    simp only [doCall] at hrun
    obtain ⟨as, rs, ws, h1, hp⟩ := prepare_sound hr.objs hargs hrun
    split at h1
    ·rename_i hcond
     simp only [Bool.and_eq_true] at hcond
     obtain ⟨hap, hd⟩ := hcond
     simp only [Act.run] at h1
     split at h1
     ·rename_i res hres
      have hS := hC f0 F as res hnum hres
      obtain ⟨e1, e2, e3⟩ := entry_sound hr.objs hp hap hd
      have hU := hS (banned X μ rs ws) μ.w (rowIn μ.φ ws) _ e1 e2 e3
      have hexec : (execOp a.eval o).run X.P μ.w = (callFunc F (List.map a.eval c.args.toList ++ cv.toList).toArray).run X.P μ.w := by
       have hea : (c.args.map a.eval) ++ cv = (List.map a.eval c.args.toList ++ cv.toList).toArray := by
        apply Array.toList_inj.1; simp
       simp only [execOp, ho, resolve, hcal, hF, Deferred.ofValue, Sem.run_bind]
       rw [← hea]
       simp [invoke, Sem.run]
      have key : ∀ val w', (∃ φ' T' O' v0 refs, Le ⟨μ.w, rowIn μ.φ ws, (enter as).O⟩ ⟨w', φ', O'⟩ ∧ Objs ⟨X.toTrEnv, banned X μ rs ws⟩ ⟨w', φ', O'⟩ ∧
        VRel ⟨X.toTrEnv, banned X μ rs ws⟩ ⟨w', φ', O'⟩ v0 val ∧ Exported as.length ⟨T', O'⟩ v0 res.val refs ∧ distinct refs = true ∧ outsOf O' 0 as = some res.outs) →
        σ'.T = T ∧ ∃ φ', VRel X ⟨w', φ', σ'.O⟩ v val ∧ Le μ ⟨w', φ', σ'.O⟩ ∧ Objs X ⟨w', φ', σ'.O⟩ := by
       rintro val w' ⟨φ', T', O', v0, refs, k1, k2, k3, k4, k5, k6⟩
       exact call_back hr.objs hp hap hd k1 k2 k3 k4 k5 k6 h1
      have hTT : σ'.T = T := run_T h1
      refine ⟨hTT, fun next Q hn => ?_⟩
      unfold Oper.wp
      rw [hexec]
      exact hU.upon fun val w' hv => by
       obtain ⟨_, φ', q1, q2, q3⟩ := key val w' hv
       exact hn val w' φ' q1 q2 q3
     ·simp at h1
    ·exact absurd h1 run_fail
   ·exact absurd hrun run_fail
  ·simp at htr
 ·simp at htr
 ·rename_i b hc
  exfalso
  revert htr
  split <;> (try split) <;> (try split) <;> (try split) <;> simp <;> (try (intro e; subst e; simp [AOp.isCall] at hnc)) <;> (try (intros; subst_vars; simp [AOp.isCall] at hnc)) <;> (try (rintro rfl; simp [AOp.isCall] at hnc))
  all_goals (split at hnc <;> first | (simp at hnc; done) | (split at hnc <;> simp at hnc) | (rename_i h9; split at h9 <;> simp at h9))
theorem trBin_noCall {op : BinOp} {t : TypeId} {x y : AOpd} {aop : AOp} (h : trBin X op t x y = some aop) : aop.isCall = false := by
 unfold trBin at h
 repeat' split at h
 all_goals first
  | (injection h with h; subst h; rfl)
  | (simp only [Option.map_eq_some_iff] at h; obtain ⟨_, _, rfl⟩ := h; rfl)
  | (simp at h; done)
theorem map_noCall {α : Type} {x : Option α} {f : α → AOp} {aop : AOp} (h : x.map f = some aop) (hf : ∀ a, (f a).isCall = false) : aop.isCall = false := by
 cases x with
 | none => simp at h
 | some a => simp at h; subst h; exact hf a
theorem trMove_noCall {h : Hints} {dst : Nat} {x : Operand} {aop : AOp} (ht : trMove X h dst x = some aop) : aop.isCall = false := by
 unfold trMove at ht
 split at ht
 ·injection ht with ht; subst ht; rfl
 ·split at ht
  ·exact map_noCall ht fun _ => rfl
  ·exact map_noCall ht fun _ => rfl
theorem trOp_noCall {h : Hints} {dst : Nat} {op : Op} {aop : AOp} (hn : ∀ c, op ≠ .call c) (htr : trOp X h dst op = some aop) : aop.isCall = false := by
 unfold trOp at htr
 split at htr
 all_goals try exact absurd rfl (hn _)
 all_goals
  repeat' split at htr
  all_goals first
   | (injection htr with htr; subst htr; rfl)
   | (injection htr with htr; subst htr; split <;> rfl)
   | exact map_noCall htr fun _ => rfl
   | exact trBin_noCall htr
   | exact trMove_noCall htr
   | (exfalso; simp at htr; done)
theorem op_hyp (hinj : ∀ t1 t2 k, X.tnum t1 = some k → X.tnum t2 = some k → t1 = t2) (hC : ∀ f F as res, X.fnum F = some f → C f as = some res → SoundCall X.toTrEnv F as res) : OpHyp X E C := by
 intro h dst o aop a T μ v σ' hr htr hrun
 cases hc : aop.isCall with
 | true =>
  cases hop : o.op with
  | call c =>
   rw [hop] at htr
   simp only [trOp] at htr
   exact call_hyp hC hr hop htr hc hrun
  | _ =>
   have := trOp_noCall (by rw [hop]; simp) htr
   rw [this] at hc; simp at hc
 | false =>
  obtain ⟨hT, val, w', φ', hrun', h1, h2, h3⟩ := op_sound hinj hr htr hc hrun
  refine ⟨hT, fun next Q hn => ?_⟩
  unfold Oper.wp
  rcases hrun' with hrun' | ⟨hrun', rfl⟩
  ·rw [hrun']; exact hn _ _ _ h1 h2 h3
  ·rw [hrun']; exact hn _ _ _ h1 h2 h3
end
end Go.AM
namespace Go.AM
open Go Go.RowKit
structure EnvSnd (X : TrEnv) (E : Env) : Prop where
 inj : ∀ t1 t2 k, X.tnum t1 = some k → X.tnum t2 = some k → t1 = t2
 mixed : X.P.follows .mixedOrders = true
 fn : ∀ f af F, E.fn f = some af → X.fnum F = some f → ∃ fn h c, X.P.funcs[F]? = some fn ∧ (fn.name == "runtime.NumGoroutine") = false ∧ fn.body = some c ∧ trFunc X h fn = some af ∧ af.nparams ≤ fn.ntmps
 ext : ∀ f as res F, E.ext f as = some res → X.fnum F = some f → SoundCall X F as res
section
variable {X : Ctx} {T : Nat → V} {a : Go.Act} {μ : Mu}
theorem result_sound (hr : Rel X T a μ) {r : ResultVar} {r' : ARes} (htr : trResult X r = some r') {v : V} (h : resultOf ⟨T, μ.O⟩ r' = some v) :
  ∃ val, ((match r with | .tmp t => pure (a.tmps.getD t undef) | .cell c t => do loadVar t (← asAddr (a.tmps.getD c undef)) : Sem Value)).run X.P μ.w = .ok val μ.w ∧ VRel X μ v val := by
 cases r with
 | tmp t =>
  simp [trResult] at htr; subst htr
  simp only [resultOf, Option.some.injEq] at h; subst h
  exact ⟨_, rfl, hr.tmps t⟩
 | cell c t =>
  simp only [trResult] at htr
  split at htr
  ·rename_i g sz hg hn
   injection htr with htr; subst htr
   simp only [resultOf] at h
   split at h
   ·rename_i r gn idx off e
    split at h
    ·rename_i es hes
     split at h
     ·rename_i hgen
      split at h
      ·rename_i el hel
       have hx := hr.tmps c
       rw [e] at hx
       simp only [VRel] at hx
       obtain ⟨p, hpv, _, haddr⟩ := hx
       obtain ⟨hpos, haddr⟩ := haddr hgen
       obtain ⟨xv, hxv, _, hmem⟩ := obj_elem hr.objs hes hel hpos
       obtain ⟨val, hl, hrel⟩ := load_from hxv h hg hn hmem
       refine ⟨val, ?_, hrel⟩
       rw [haddr] at hpv
       show (do loadVar t (← asAddr (a.tmps.getD c undef)) : Sem Value).run X.P μ.w = _
       rw [hpv]
       simpa [Sem.run_bind, asAddr, Sem.run] using hl
      ·simp at h
     ·simp at h
    ·simp at h
   ·simp at h
  ·simp at htr
theorem results_list (hr : Rel X T a μ) : ∀ {rs : List ResultVar} {rs' : List ARes} {vs : List V}, trResults X rs = some rs' → resultsOf ⟨T, μ.O⟩ rs' = some vs →
  ∃ vals, (rs.mapM (fun r => (match r with | .tmp t => pure (a.tmps.getD t undef) | .cell c t => do loadVar t (← asAddr (a.tmps.getD c undef)) : Sem Value))).run X.P μ.w = .ok vals μ.w ∧ VRels X μ vs vals
 | [], rs', vs, h1, h2 => by
  simp [trResults] at h1; subst h1
  simp [resultsOf] at h2; subst h2
  exact ⟨[], by simp [Sem.run], by simp [VRels]⟩
 | r :: rs, rs', vs, h1, h2 => by
  simp only [trResults] at h1
  split at h1
  ·rename_i r1 rs1 k1 k2
   injection h1 with h1; subst h1
   simp only [resultsOf] at h2
   split at h2
   ·rename_i v vs1 m1 m2
    injection h2 with h2; subst h2
    obtain ⟨val, n1, n2⟩ := result_sound hr k1 m1
    obtain ⟨vals, p1, p2⟩ := results_list hr k2 m2
    refine ⟨val :: vals, ?_, by simp only [VRels]; exact ⟨n2, p2⟩⟩
    simp only [List.mapM_cons, Sem.run_bind, n1, Result.andThen, p1]
    rfl
   ·simp at h2
  ·simp at h1
theorem results_sound (hr : Rel X T a μ) {fn : Func} {rs' : List ARes} {vs : List V} (h1 : trResults X fn.results.toList = some rs') (h2 : resultsOf ⟨T, μ.O⟩ rs' = some vs) :
  ∃ vals, (results fn a.tmps).run X.P μ.w = .ok (match vals with | [v] => v | vs => .tuple vs.toArray) μ.w ∧ VRels X μ vs vals := by
 obtain ⟨vals, k1, k2⟩ := results_list hr h1 h2
 refine ⟨vals, ?_, k2⟩
 have hm : (fn.results.mapM (fun r => (match r with | .tmp t => pure (a.tmps.getD t undef) | .cell c t => do loadVar t (← asAddr (a.tmps.getD c undef)) : Sem Value))).run X.P μ.w = .ok vals.toArray μ.w := by
  rw [Array.mapM_eq_mapM_toList]
  show Sem.run X.P (_ >>= fun l => pure (List.toArray l)) _ = _
  rw [Sem.run_bind, k1]
  rfl
 unfold results
 rw [Sem.run_bind]
 refine (congrArg (fun r => Result.andThen r (fun vs w' => Sem.run X.P (pure (if h : vs.size = 1 then vs[0] else Value.tuple vs)) w')) hm).trans ?_
 match vals with
 | [] => rfl
 | [v] => rfl
 | _ :: _ :: _ => rfl
end
section
variable {X : TrEnv} {E : Env}
theorem leave_out {af : AFunc} {args : List V} {σ : St} {res : Res} (h : leave af args σ = some res) :
  ∃ vs, resultsOf σ af.results = some vs ∧ outsOf σ.O 0 args = some res.outs ∧ ∃ refs, distinct refs = true ∧
   ∀ v0, v0 = (match vs with | [v] => v | vs => .tuple vs) → Exported args.length σ v0 res.val refs := by
 unfold leave at h
 split at h
 ·rename_i vs outs h1 h2
  refine ⟨vs, h1, ?_⟩
  split at h
  ·rename_i v rs hx
   split at h
   ·rename_i hd
    injection h with h; subst h
    refine ⟨h2, rs, hd, ?_⟩
    rintro v0 rfl
    match vs, hx with
    | [u], hx =>
     simp only [exportVs] at hx
     split at hx
     ·rename_i c' r cs' rs' k1 k2
      simp only [Option.some.injEq, Prod.mk.injEq, List.cons.injEq] at hx k2
      obtain ⟨⟨rfl, rfl⟩, rfl⟩ := hx
      obtain ⟨_, rfl⟩ := k2
      simpa using Exported.one k1
     ·simp at hx
    | [], hx => simp [exportVs] at hx
    | _ :: _ :: _, hx =>
     simp only [exportVs] at hx
     split at hx
     ·rename_i k1 k2
      split at k2
      ·simp only [Option.some.injEq, Prod.mk.injEq] at hx k2
       obtain ⟨e1, _⟩ := k2
       subst e1
       simp at hx
      ·simp at k2
     ·simp at hx
   ·simp at h
  ·rename_i vs' rs hns hx
   split at h
   ·rename_i hd
    injection h with h; subst h
    refine ⟨h2, rs, hd, ?_⟩
    rintro v0 rfl
    match vs, hx with
    | [u], hx =>
     exfalso
     simp only [exportVs] at hx
     split at hx
     ·rename_i c' r cs' rs' k1 k2
      simp only [Option.some.injEq, Prod.mk.injEq] at hx k2
      obtain ⟨rfl, rfl⟩ := hx
      obtain ⟨rfl, _⟩ := k2
      exact hns _ rfl
     ·simp at hx
    | [], hx => exact .many hx
    | _ :: _ :: _, hx => exact .many hx
   ·simp at h
  ·simp at h
 ·simp at h
theorem body_sound (hE : EnvSnd X E) {n : Nat} (hH : ∀ m, m < n → ∀ (B : Nat → Prop), OpHyp ⟨X, B⟩ E (callWith E (exec E m))) {f : Nat} {af : AFunc} {F : FuncId} (hf : E.fn f = some af) (hF : X.fnum F = some f)
  {args : List V} {res : Res} {e : AExit} {σ : St} (hlen : args.length = af.nparams) (hx : exec E n af.body (enter args) = some (e, σ)) (he : e = .normal ∨ e = .ret) (hl : leave af args σ = some res) : SoundCall X F args res := by
 obtain ⟨fn, h, c, hfn, hname, hbody, htr, hle⟩ := hE.fn f af F hf hF
 intro B w φ0 vals hvl hv ho
 have hcf : (callFunc F vals.toArray).run X.P w = .ok (.enter F vals.toArray) w := by
  have hname' : (fn.name == "runtime.NumGoroutine") = false := hname
  simp [callFunc, Sem.run_bind, program, Sem.run, hfn, hname', hbody]
  simpa using hname
 rw [hcf]
 unfold trFunc at htr
 rw [hbody] at htr
 simp only at htr
 split at htr
 ·rename_i ac rs hc hrs
  injection htr with htr
  subst htr
  simp only [Upon]
  refine calls_of_wp hfn hbody ?_
  have hsz : vals.toArray.size ≤ fn.ntmps := by simp [hvl, hlen]; exact hle
  have hsim : Sim ⟨X, B⟩ ⟨w, φ0, (enter args).O⟩ fn.ntmps (enter args) { tmps := vals.toArray ++ Array.replicate (fn.ntmps - vals.toArray.size) undef, defers := [] } w := by
   refine ⟨rfl, by simp at hsz ⊢; omega, φ0, ⟨fun t => ?_, ho⟩, Le.refl _⟩
   by_cases ht : t < vals.length
   ·have e1 : (vals.toArray ++ Array.replicate (fn.ntmps - vals.toArray.size) undef).getD t undef = vals[t] := by
     simp [Array.getElem?_append, ht]
    rw [e1]
    exact hv t _ (List.getElem?_eq_getElem ht)
   ·have e1 : (vals.toArray ++ Array.replicate (fn.ntmps - vals.toArray.size) undef).getD t undef = undef := by
     simp [Array.getElem?_append, ht, Array.getElem?_replicate]
     split <;> rfl
    have e2 : (enter args).T t = undefV := by
     have : args[t]? = none := List.getElem?_eq_none (by omega)
     simp [enter, this]
    rw [e1, e2]
    exact undef_rel
  refine wp_mono (code_sound (X := ⟨X, B⟩) hE.mixed (h := { h with n := fn.ntmps }) rfl n (fun m hm => hH m hm B) c ac _ _ e _ w hc hx hsim) fun ex a' w' hq => ?_
  obtain ⟨rfl, hdef, _, φ', hr, hle'⟩ := hq
  obtain ⟨vs, l1, l2, refs, l3, l4⟩ := leave_out hl
  obtain ⟨rvals, r1, r2⟩ := results_sound hr hrs l1
  have fin : a'.defers = [] ∧ ∃ v, (results fn a'.tmps).run X.P w' = .ok v w' ∧ ∃ φ' T' O' v0 refs, Le ⟨w, φ0, (enter args).O⟩ ⟨w', φ', O'⟩ ∧ Objs ⟨X, B⟩ ⟨w', φ', O'⟩ ∧
   VRel ⟨X, B⟩ ⟨w', φ', O'⟩ v0 v ∧ Exported args.length ⟨T', O'⟩ v0 res.val refs ∧ distinct refs = true ∧ outsOf O' 0 args = some res.outs := by
   refine ⟨hdef, _, r1, φ', σ.T, σ.O, _, refs, hle', hr.objs, ?_, l4 _ rfl, l3, l2⟩
   match vs, rvals, r2 with
   | [], [], r2 => simp only [VRel]; exact ⟨_, rfl, by simpa using r2⟩
   | [v], [u], r2 => simp only [VRels] at r2; exact r2.1
   | _ :: _ :: _, _ :: _ :: _, r2 => simp only [VRel]; exact ⟨_, rfl, by simpa using r2⟩
   | [], _ :: _, r2 => simp [VRels] at r2
   | _ :: _, [], r2 => simp [VRels] at r2
   | [_], _ :: _ :: _, r2 => simp [VRels] at r2
   | _ :: _ :: _, [_], r2 => simp [VRels] at r2
  rcases he with rfl | rfl
  ·exact fin
  ·exact fin
 ·simp at htr
theorem call_sound_all (hE : EnvSnd X E) : ∀ (n : Nat) (f : Nat) (F : FuncId) (args : List V) (res : Res), X.fnum F = some f → call E n f args = some res → SoundCall X F args res := by
 intro n
 induction n using Nat.strongRecOn with
 | _ n ih =>
  intro f F args res hF h
  unfold call callWith at h
  split at h
  ·rename_i r he
   injection h with h; subst h
   exact hE.ext f args r F he hF
  ·split at h
   ·rename_i af hf
    split at h
    ·rename_i hlen
     have hH : ∀ m, m < n → ∀ (B : Nat → Prop), OpHyp ⟨X, B⟩ E (callWith E (exec E m)) := fun m hm B => op_hyp hE.inj fun f F as res h1 h2 => ih m hm f F as res h1 h2
     split at h
     ·rename_i σ hx; exact body_sound hE hH hf hF hlen hx (.inl rfl) h
     ·rename_i σ hx; exact body_sound hE hH hf hF hlen hx (.inr rfl) h
     ·simp at h
    ·simp at h
   ·simp at h
end
end Go.AM
namespace Go.AM
open Go Go.RowKit
section
variable {X : TrEnv} {F : FuncId} {fn : Func}
theorem enter_O_pure {args : List V} (h : V.arePure args = true) : (enter args).O = fun _ => deadObj := by rw [enter_pure h]
def E00 : Env := ⟨fun _ => none, fun _ _ => none⟩
def C00 : Oracle := fun _ _ => none
def strip (o : AOper) : AOper := { o with pre := [] }
structure CloneShape (X : TrEnv) (fn : Func) (sz lim : Nat) : Prop where
 body : ∃ i0 i1 i2 i3 ops0 ops1 ops2 ops3, fn.body = some (.seq (.region i0 ops0 false) (.seq (.seq (.region i1 ops1 false) (.cond (.tmp 4) (.seq (.region i2 ops2 false) .ret) .skip)) (.seq (.region i3 ops3 false) .ret))) ∧
  (trOpers X ({ n := fn.ntmps } : Hints) ops0 ops0.toList).map (List.map strip) = some [⟨some 2, .move (.const .nils), none, []⟩] ∧
  (trOpers X ({ n := fn.ntmps } : Hints) ops2 ops2.toList).map (List.map strip) = some [⟨some 2, .move (.const .nils), none, []⟩] ∧
  (∃ zero, isBlank zero sz = true ∧ 0 < sz ∧ (trOpers X ({ n := fn.ntmps } : Hints) ops3 ops3.toList).map (List.map strip) = some [⟨some 5, .buildSlice 96 sz zero 0 [], none, []⟩, ⟨some 6, .move (.tmp 0), none, []⟩, ⟨some 7, .append 128 sz lim (.tmp 5) (.tmp 6), none, []⟩, ⟨some 2, .move (.tmp 7), none, []⟩]) ∧
  (∃ o1 o2 t e, ops1 = #[o1, o2] ∧ (trOper X ({ n := fn.ntmps } : Hints) #[o1, o2] o1).map strip = some ⟨some 3, .move (.tmp 0), none, []⟩ ∧ o2.dst = some 4 ∧ o2.guard = none ∧ o2.op = .binOp .eql t (.tmp 3) (.const (.slice none 0 0)) t ∧ X.P.underlying t = some (.slice e))
 res : fn.results = #[.tmp 2]
 tmps : 8 ≤ fn.ntmps
theorem opHyp00 {Y : Ctx} (hinj : ∀ t1 t2 k, Y.tnum t1 = some k → Y.tnum t2 = some k → t1 = t2) : OpHyp Y E00 C00 :=
 op_hyp hinj fun _ _ _ _ _ h => by simp [C00] at h
theorem opHypC {Y : Ctx} (hinj : ∀ t1 t2 k, Y.tnum t1 = some k → Y.tnum t2 = some k → t1 = t2) (n : Nat) : OpHyp Y E00 (call E00 n) :=
 op_hyp hinj fun _ _ _ _ _ h => by simp [call, callWith, E00] at h
theorem clone_sound (hinj : ∀ t1 t2 k, X.tnum t1 = some k → X.tnum t2 = some k → t1 = t2) (hfn : X.P.funcs[F]? = some fn) (hname : (fn.name == "runtime.NumGoroutine") = false) {sz lim : Nat} (hsh : CloneShape X fn sz lim)
  {as : List V} {res : Res} (h : cloneV sz lim as = some res) : SoundCall X F as res := by
 obtain ⟨⟨i0, i1, i2, i3, ops0, ops1, ops2, ops3, hbody, h0, h2, ⟨zero, hz1, hz2, h3⟩, o1, o2, t, e, rfl, ho1, hd2, hg2, hop2, hty⟩, hres, htm⟩ := hsh
 rw [Option.map_eq_some_iff] at h0 h2 h3 ho1
 obtain ⟨as0, h0, k0⟩ := h0
 obtain ⟨as2, h2, k2⟩ := h2
 obtain ⟨as3, h3, k3⟩ := h3
 obtain ⟨ao1, ho1, k1⟩ := ho1
 have k0' : as0.map (fun o => { o with pre := [] }) = _ := k0
 have k2' : as2.map (fun o => { o with pre := [] }) = _ := k2
 have k3' : as3.map (fun o => { o with pre := [] }) = _ := k3
 obtain ⟨a0, xs, rfl, hcase, hlim, rfl⟩ : ∃ a0 xs, as = [a0] ∧ (a0 = .lit sz xs ∨ a0 = .nils ∧ xs = []) ∧ xs.length ≤ lim ∧ res = ⟨.own sz xs, []⟩ := by
  unfold cloneV at h
  split at h
  ·injection h with h; exact ⟨_, [], rfl, .inr ⟨rfl, rfl⟩, by simp, h.symm⟩
  ·rename_i sz' xs
   split at h
   ·rename_i he; injection h with h; obtain ⟨rfl, he⟩ := he; exact ⟨_, xs, rfl, .inl rfl, he, h.symm⟩
   ·simp at h
  ·simp at h
 have hpure : V.arePure [a0] = true := by rcases hcase with rfl | ⟨rfl, rfl⟩ <;> rfl
 intro B w φ0 vals hvl hv ho
 have hO : (enter [a0]).O = fun _ => deadObj := enter_O_pure hpure
 have hT0 : (enter [a0]).T 0 = a0 := by rw [enter_pure hpure]; rfl
 have hcf : (callFunc F vals.toArray).run X.P w = .ok (.enter F vals.toArray) w := by
  simp [callFunc, Sem.run_bind, program, Sem.run, hfn, hbody]
  simpa using hname
 rw [hcf]
 simp only [Upon]
 refine calls_of_wp hfn hbody ?_
 have hsz : vals.toArray.size ≤ fn.ntmps := by simp [hvl]; omega
 have hsim : Sim ⟨X, B⟩ ⟨w, φ0, (enter [a0]).O⟩ fn.ntmps (enter [a0]) { tmps := vals.toArray ++ Array.replicate (fn.ntmps - vals.toArray.size) undef, defers := [] } w := by
  refine ⟨rfl, by simp at hsz ⊢; omega, φ0, ⟨fun t => ?_, ho⟩, Le.refl _⟩
  by_cases ht : t < vals.length
  ·have e1 : (vals.toArray ++ Array.replicate (fn.ntmps - vals.toArray.size) undef).getD t undef = vals[t] := by
    simp [Array.getElem?_append, ht]
   rw [e1]
   exact hv t _ (List.getElem?_eq_getElem ht)
  ·have e1 : (vals.toArray ++ Array.replicate (fn.ntmps - vals.toArray.size) undef).getD t undef = undef := by
    simp [Array.getElem?_append, ht, Array.getElem?_replicate]
    split <;> rfl
   have e2 : (enter [a0]).T t = undefV := by
    have : [a0][t]? = none := List.getElem?_eq_none (by omega)
    simp [enter, this]
   rw [e1, e2]
   exact undef_rel
 have H := opHyp00 (Y := ⟨X, B⟩) hinj
 refine wp_seq (wp_mono (wp_region (Q := fun ex a w' => ex = .normal ∧ Sim ⟨X, B⟩ ⟨w, φ0, (enter [a0]).O⟩ fn.ntmps ((enter [a0]).put (some 2) .nils) a w') ?_) ?_)
 ·rw [List.range_eq_range']
  refine region_sound H (h := ({ n := fn.ntmps } : Hints)) rfl h0 ops0.size 0 (by omega) hsim (by rw [List.drop_zero, k0']; rfl) fun a' w' hs' => ⟨rfl, hs'⟩
 rintro ex a1 w1 ⟨rfl, hs1⟩
 refine wp_seq (wp_seq (wp_region ?_))
 have hr01 : List.range (#[o1, o2] : Array Oper).size = [0, 1] := rfl
 rw [hr01, wpOps_cons]
 have eT0 : ((enter [a0]).put (some 2) .nils).T 0 = a0 := hT0
 have hrun0 : runOp E00 C00 ao1 ((enter [a0]).put (some 2) .nils) = some (((enter [a0]).put (some 2) .nils).put (some 3) a0) := by
  have hs : runOp E00 C00 (strip ao1) ((enter [a0]).put (some 2) .nils) = some (((enter [a0]).put (some 2) .nils).put (some 3) a0) := by
   rw [k1]
   show some (((enter [a0]).put (some 2) .nils).put (some 3) (((enter [a0]).put (some 2) .nils).T 0)) = _
   rw [eT0]
  exact hs
 refine oper_sound H (h := ({ n := fn.ntmps } : Hints)) (o := o1) rfl ho1 rfl hs1 hrun0 fun a2 w2 hs2 => ?_
 generalize hσ2 : ((enter [a0]).put (some 2) .nils).put (some 3) a0 = σ2 at hs2
 have e23 : σ2.T 3 = a0 := by rw [← hσ2]; rfl
 have e20 : σ2.T 0 = a0 := by rw [← hσ2]; exact hT0
 have e2O : σ2.O = fun _ => deadObj := by rw [← hσ2]; exact hO
 rw [wpOps_cons]
 obtain ⟨hdef2, hsz2, φ2, hr2, hle2⟩ := hs2
 have h30 := hr2.tmps 3
 rw [e23] at h30
 obtain ⟨ad, n, cap, hval⟩ : ∃ ad n cap, a2.tmps.getD 3 undef = .slice ad n cap := by
  rcases hcase with rfl | ⟨rfl, _⟩
  ·simp only [VRel] at h30
   obtain ⟨_, _, a, c, _, h, _⟩ := h30
   exact ⟨_, _, _, h⟩
  ·simp only [VRel] at h30
   obtain ⟨a, h⟩ := h30
   exact ⟨_, _, _, h⟩
 have hnone : ad.isNone = true → xs = [] := by
  intro hn
  rcases hcase with rfl | ⟨rfl, h9⟩
  ·simp only [VRel] at h30
   obtain ⟨_, _, a, c, _, h, _, _, h'⟩ := h30
   rw [hval] at h
   injection h with h _ _
   rcases h' with h' | ⟨b, o, h', _⟩
   ·exact h'
   ·rw [h, h'] at hn; simp at hn
  ·exact h9
 have heq : (Op.equal t (.slice ad n cap) (.slice none 0 0)).run X.P w2 = .ok ad.isNone w2 := run_equal_slice_nil w2 t e ad n cap hty
 have hexec : (execOp a2.eval o2).run X.P w2 = .ok (.value (.bool ad.isNone)) w2 := by
  simp only [execOp, hop2]
  refine run_v ?_
  have ev : a2.eval (.tmp 3) = .slice ad n cap := by simpa [Go.Act.eval] using hval
  have ev2 : a2.eval (.const (.slice none 0 0)) = .slice none 0 0 := rfl
  simp [eqGuard, ev, ev2, Go.binOp, Sem.run_bind, heq]
 have hi1 : (#[o1, o2] : Array Oper)[1]? = some o2 := rfl
 simp only [wpOp, hi1]
 rw [if_pos (by simp [Region.wanted, hg2])]
 refine .inl ?_
 unfold Oper.wp
 rw [hexec, Oper.upon_value]
 simp only [wpOps]
 have hs3 : Sim ⟨X, B⟩ ⟨w, φ0, (enter [a0]).O⟩ fn.ntmps (σ2.put (some 4) (.bool ad.isNone)) (a2.put o2.dst (.bool ad.isNone)) w2 := by
  rw [hd2]
  refine ⟨by rw [put_defers]; exact hdef2, by rw [put_size]; exact hsz2, φ2, ?_, ?_⟩
  ·exact put_rel hr2 (Le.refl _) hr2.objs (by simp [VRel]) (by simp; rw [hsz2]; simp; omega) σ2.O
  ·exact hle2
 generalize a2.put o2.dst (.bool ad.isNone) = a3 at hs3 ⊢
 have hc4 : a3.eval (.tmp 4) = .bool ad.isNone := opd_bool (c' := .tmp 4) hs3 rfl rfl
 have hxs : V.arePure xs = true ∧ xs.all (isBlank · sz) = true := by
  rcases hcase with rfl | ⟨rfl, h9⟩
  ·simp only [VRel] at h30
   obtain ⟨k1, k2, a, c, vs, _, _, k3, k4⟩ := h30
   refine ⟨k1, ?_⟩
   rcases k4 with rfl | ⟨b, o, _, _, _, k5⟩
   ·rfl
   ·rw [List.all_eq_true] at k2 ⊢
    intro x hx
    obtain ⟨i, hi⟩ := List.mem_iff_getElem?.1 hx
    obtain ⟨v, hv1, hv2⟩ := VRels.get k3 hi
    have := (k5 i v hv1).1
    rw [hv2.cells_size (k2 x hx)] at this
    simp [isBlank, this, k2 x hx]
  ·subst h9; exact ⟨rfl, rfl⟩
 have fini : ∀ (a' : Go.Act) (w' : World) (O' : Nat → Obj), a'.defers = [] → (∃ φ', Le ⟨w, φ0, (enter [a0]).O⟩ ⟨w', φ', O'⟩ ∧ Objs ⟨X, B⟩ ⟨w', φ', O'⟩ ∧ ∃ r g, 1 ≤ r ∧ VRel ⟨X, B⟩ ⟨w', φ', O'⟩ (.sl r g 0 xs.length) (a'.tmps.getD 2 undef) ∧ O' r = ⟨g, sz, true, false, some xs⟩) →
   bodyPost X.P fn (fun | .returned val, w' => ∃ φ' T' O' v0 refs, Le ⟨w, φ0, (enter [a0]).O⟩ ⟨w', φ', O'⟩ ∧ Objs ⟨X, B⟩ ⟨w', φ', O'⟩ ∧ VRel ⟨X, B⟩ ⟨w', φ', O'⟩ v0 val ∧ Exported [a0].length ⟨T', O'⟩ v0 (Res.mk (.own sz xs) []).val refs ∧ distinct refs = true ∧ outsOf O' 0 [a0] = some (Res.mk (.own sz xs) []).outs | _, _ => False) .ret a' w' := by
  rintro a' w' O' hd ⟨φ', k1, k2, r, g, k3, k4, k5⟩
  refine ⟨hd, a'.tmps.getD 2 undef, by simp [results, hres], φ', fun _ => undefV, O', _, [r], k1, k2, k4, .one ?_, rfl, outsOf_pure hpure⟩
  have hwin : window xs 0 xs.length = xs := window_all rfl
  have hnr : ¬ r < [a0].length := by simp; omega
  simp only [exportV, V.isPure, exportCell, k5, hwin, hxs.1, hnr]
  simp
 cases hb : ad.isNone with
 | true =>
  rw [hb] at hc4
  obtain rfl := hnone hb
  refine wp_cond_true hc4 (wp_seq (wp_region ?_))
  rw [List.range_eq_range']
  refine region_sound H (h := ({ n := fn.ntmps } : Hints)) rfl h2 ops2.size 0 (by omega) hs3 (σ' := (σ2.put (some 4) (.bool ad.isNone)).put (some 2) .nils) (by rw [List.drop_zero, k2']; rfl) fun a' w' hs' => ?_
  refine wp_ret ?_
  obtain ⟨hd', _, φ, hr', hle'⟩ := hs'
  have eO : ((σ2.put (some 4) (.bool ad.isNone)).put (some 2) .nils).O = fun _ => deadObj := e2O
  have hv2 := hr'.tmps 2
  have e2 : ((σ2.put (some 4) (.bool ad.isNone)).put (some 2) .nils).T 2 = .nils := rfl
  rw [e2] at hv2
  have hobj := hr'.objs
  rw [eO] at hle' hobj
  simp only [VRel] at hv2
  obtain ⟨aa, haa⟩ := hv2
  refine fini a' w' (upd (fun _ => deadObj) 1 ⟨1, sz, true, false, some []⟩) hd' ⟨upd φ 1 ⟨0, 0, 0⟩, hle'.trans ⟨Nat.le_refl _, fun b hb hn => ⟨rfl, ?_⟩, fun r => ?_, fun r hr => ?_, rfl, rfl, rfl, fun _ _ => rfl, fun _ h => frozen_out h⟩, ⟨fun r es hes => ?_, fun r r' _ h1 h2 h3 h4 => ?_, fun r h1 h2 => ?_, hobj.blt⟩, 1, 1, Nat.le_refl _, ?_, rfl⟩
  ·rintro ⟨r, h1, h2, h3, h4⟩
   by_cases e : r = 1
   ·subst e; simp [upd] at h3
   ·simp [upd, e, deadObj] at h1
  ·simp only [deadObj]; omega
  ·by_cases e : r = 1
   ·subst e; simp [upd, deadObj] at hr
   ·simp [upd, e]
  ·by_cases e : r = 1
   ·subst e
    simp only [upd, if_true, Option.some.injEq] at hes ⊢
    subst hes
    left
    unfold RowOk
    simp only [upd, if_true]
    exact ⟨hz2, by simp, rfl, by simp⟩
   ·simp [upd, e, deadObj] at hes
  ·by_cases e : r = 1
   ·subst e; simp [upd] at h3
   ·simp [upd, e, deadObj] at h1
  ·by_cases e : r = 1
   ·subst e; simp [upd] at h2
   ·simp [upd, e, deadObj] at h1
  ·simp only [VRel]
   exact ⟨aa, 0, haa, by simp, by simp [upd], fun _ => ⟨by simpa [upd] using hz2, by simp [upd], by simp⟩⟩
 | false =>
  rw [hb] at hc4
  refine wp_cond_false hc4 (wp_skip ?_)
  refine wp_seq (wp_region ?_)
  have hw3 : wpo E00 [⟨some 5, .buildSlice 96 sz zero 0 [], none, []⟩, ⟨some 6, .move (.tmp 0), none, []⟩, ⟨some 7, .append 128 sz lim (.tmp 5) (.tmp 6), none, []⟩, ⟨some 2, .move (.tmp 7), none, []⟩] (σ2.put (some 4) (.bool ad.isNone))
    (fun σ' => ∃ g, σ'.T 2 = .sl 96 g 0 xs.length ∧ σ'.O 96 = ⟨g, sz, true, false, some xs⟩) := by
   have hO96 : σ2.O 96 = deadObj := by rw [e2O]
   have hz0 : 0 * sz ≤ 16777216 := by simp
   have hzb := hz1
   simp only [isBlank, V.lies] at hzb
   have hcont : ∀ (k : List V → Act), content sz a0 k = k xs := by
    intro k
    rcases hcase with rfl | ⟨rfl, rfl⟩ <;> simp [content]
   by_cases hx : xs = []
   ·subst hx
    simp only [wpc_seq, wpc_region, wpc_skip, wpc_exit, wpc_ret, wpc_scope, wpc_block, wpc_cond, wpo_cons, wpo_nil, wpx_cons, wpx_nil, operAct, aop_indexAddr, aop_slice, aop_append, opAct.putIn, wpa_getT, wpa_getO, wpa_setO, wpa_done, wpa_fail, wpa_give, wpa_ite, wpf_getT, wpf_getO, wpf_setO, wpf_done, wpf_fail, wpf_give, wpf_ite, isBlank, V.lies, V.isPure, V.arePure, V.isScalar, V.areScalar, frz_pure, outsOf_pure, exportV_pure, importRes_pure, part_cell, put_T, put_O, setO_T, setO_O, put_none, dstLoc, deadObj, andThen, outOf, evalOpd_tmp, evalOpd_const, boolV, undefV, Res.mk.injEq, V.int.injEq, V.tuple.injEq, List.cons.injEq, V.bool.injEq, V.str.injEq, V.agg.injEq, List.getD_cons_zero, List.getD_cons_succ, List.getD_nil, List.length_cons, List.length_nil, List.getElem?_cons_zero, List.getElem?_cons_succ, List.set_cons_zero, List.set_cons_succ, List.take_succ_cons, List.take_zero, List.drop_succ_cons, List.drop_zero, List.take_nil, List.drop_nil, List.cons_append, List.nil_append, List.append_nil, Nat.zero_add, Nat.add_zero, Nat.reduceAdd, Nat.reduceSub, Nat.reduceMul, Nat.reduceEqDiff, Nat.reduceLT, Nat.reduceLeDiff, Nat.reduceBEq, BEq.rfl, Bool.true_or, Bool.or_true, Bool.false_or, Bool.or_false, Bool.and_true, Bool.true_and, Bool.and_false, Bool.false_and, Bool.and_self, Bool.or_self, Bool.false_eq_true, Bool.true_eq_false, Bool.not_true, Bool.not_false, Nat.lt_add_one, Nat.le_refl, decide_true, decide_false, decide_eq_true_eq, if_true, if_false, ↓reduceIte, true_and, and_true, and_self, false_and, and_false, reduceCtorEq, Nat.sub_zero, Option.some.injEq, Nat.zero_lt_one, Nat.lt_irrefl, ne_eq, not_true_eq_false, not_false_eq_true, V.cells.eq_1, V.cells.eq_2, V.isAgg.eq_1, V.isAgg.eq_2, V.isCell.eq_1, V.isCell.eq_2, V.isCell.eq_3, V.isCell.eq_4, V.isCell.eq_5, V.isCell.eq_6, V.isCell.eq_7, V.isTuple.eq_1, V.isTuple.eq_2, AM.part.eq_1, AM.part.eq_2, AM.part.eq_3, AM.part.eq_4, AM.putPart.eq_1, AM.putPart.eq_2, AM.putPart.eq_3, AM.putPart.eq_4, lenV.eq_1, lenV.eq_2, lenV.eq_3, lenV.eq_4, boundOf.eq_1, boundOf.eq_2, boundOf.eq_3, sliceStrV.eq_1, sliceStrV.eq_2, content.eq_1, content.eq_2, content.eq_3, content.eq_4, content.eq_5, fillCells.eq_1, fillCells.eq_2, fillElems.eq_1, fillElems.eq_2, frz.eq_1, frz.eq_2, frzCell.eq_1, frzCell.eq_2, frzCell.eq_3, frzCell.eq_4, frzCell.eq_5, frzCell.eq_6, frzCells.eq_1, frzCells.eq_2, frzs.eq_1, frzs.go.eq_1, frzs.go.eq_2, importRes.eq_1, importRes.eq_2, importV.eq_1, importV.eq_2, importVs.eq_1, importVs.eq_2, importCell.eq_1, importCell.eq_2, importCell.eq_3, importCells.eq_1, importCells.eq_2, exportCell.eq_1, exportCell.eq_2, exportCells.eq_1, exportCells.eq_2, exportV.eq_1, exportV.eq_2, exportV.eq_3, exportVs.eq_1, exportVs.eq_2, resultOf.eq_1, resultOf.eq_2, resultsOf.eq_1, resultsOf.eq_2, outsOf.eq_1, outsOf.eq_2, outsOf.eq_3, outsOf.eq_4, binV.eq_1, binV.eq_2, binV.eq_3, binV.eq_4, binV.eq_5, binV.eq_6, binV.eq_7, binV.eq_8, binV.eq_9, binV.eq_10, binV.eq_11, binV.eq_12, binV.eq_13, binV.eq_14, binV.eq_15, binV.eq_16, binV.eq_17, binV.eq_18, binV.eq_19, binV.eq_20, binV.eq_21, cmpInt.eq_1, cmpInt.eq_2, cmpInt.eq_3, cmpInt.eq_4, cmpInt.eq_5, cmpInt.eq_6, cmpInt.eq_7, unV.eq_1, unV.eq_2, unV.eq_3, unV.eq_4, min2.eq_1, min2.eq_2, max2.eq_1, max2.eq_2, foldV.eq_1, foldV.eq_2, foldV1.eq_1, foldV1.eq_2, eqK.eq_1, eqK.eq_2, eqK.eq_3, eqK.eq_4, eqKs.eq_1, eqKs.eq_2, eqKs.eq_3, evParts.eq_1, evParts.eq_2, evElems.eq_1, evElems.eq_2, ev.eq_1, ev.eq_2, evs.eq_1, evs.eq_2, evo.eq_1, evo.eq_2, idxAct.eq_1, idxAct.eq_2, idxAct.eq_3, give.eq_1, give.eq_2, leave.eq_1, distinct.eq_1, distinct.eq_2, fin.eq_1, fin.eq_2, fin.eq_3, opAct.eq_1, opAct.eq_2, opAct.eq_3, opAct.eq_4, opAct.eq_5, opAct.eq_6, opAct.eq_7, opAct.eq_8, opAct.eq_9, opAct.eq_10, opAct.eq_11, opAct.eq_12, opAct.eq_13, opAct.eq_14, opAct.eq_15, opAct.eq_16, opAct.eq_17, opAct.eq_18, opAct.eq_19, opAct.eq_20, opAct.eq_21, opAct.eq_23, opAct.eq_24, opAct.eq_26, opAct.eq_27, opAct.eq_28, opAct.eq_29, opAct.eq_30, opAct.eq_31, opAct.eq_32, opAct.eq_34, opAct.eq_35, opAct.eq_36, opAct.eq_37, opAct.eq_38, slcAct.eq_1, apart, freezeAll.eq_1, freezeAll.eq_2, putOuts.eq_1, putOuts.eq_2, putOuts.eq_3, lookRef.eq_1, lookRef.eq_2, List.map_nil, List.map_cons, List.all_nil, List.all_cons, List.contains_nil, List.contains_cons, sliceV.eq_1, sliceV.eq_2, Option.isSome_some, Option.isSome_none, Option.isNone_none, Option.isNone_some, int_beq, int_bne, bne_self_eq_false, Bool.bne_true, Bool.bne_false, Bool.true_bne, Bool.false_bne, window_all, List.isEmpty_cons, List.isEmpty_nil, eq_self, List.replicate_succ, List.replicate_zero, frzs_pure, Int.cast_ofNat_Int, Int.reduceToNat, Int.toNat_zero, Int.toNat_one, Int.reduceAdd, Int.reduceSub, Int.reduceMul, Int.reduceNeg, Int.reduceLE, Int.reduceLT, Int.reduceEq, Int.neg_ofNat_le_ofNat, Int.natCast_nonneg, Int.toNat_natCast, Int.toNat_natCast_add_one, Int.ofNat_lt, wrap64, Int.le_refl, e20, hO96, hcont, hzb, hz0, hz2, app_sl (show ([] : List V).all (isBlank · sz) = true from rfl), Nat.zero_le, overwrite]
    exact ⟨1, rfl, rfl⟩
   ·have hpos : ¬ xs.length ≤ 0 := by
     intro h; exact hx (List.eq_nil_of_length_eq_zero (by omega))
    simp only [wpc_seq, wpc_region, wpc_skip, wpc_exit, wpc_ret, wpc_scope, wpc_block, wpc_cond, wpo_cons, wpo_nil, wpx_cons, wpx_nil, operAct, aop_indexAddr, aop_slice, aop_append, opAct.putIn, wpa_getT, wpa_getO, wpa_setO, wpa_done, wpa_fail, wpa_give, wpa_ite, wpf_getT, wpf_getO, wpf_setO, wpf_done, wpf_fail, wpf_give, wpf_ite, isBlank, V.lies, V.isPure, V.arePure, V.isScalar, V.areScalar, frz_pure, outsOf_pure, exportV_pure, importRes_pure, part_cell, put_T, put_O, setO_T, setO_O, put_none, dstLoc, deadObj, andThen, outOf, evalOpd_tmp, evalOpd_const, boolV, undefV, Res.mk.injEq, V.int.injEq, V.tuple.injEq, List.cons.injEq, V.bool.injEq, V.str.injEq, V.agg.injEq, List.getD_cons_zero, List.getD_cons_succ, List.getD_nil, List.length_cons, List.length_nil, List.getElem?_cons_zero, List.getElem?_cons_succ, List.set_cons_zero, List.set_cons_succ, List.take_succ_cons, List.take_zero, List.drop_succ_cons, List.drop_zero, List.take_nil, List.drop_nil, List.cons_append, List.nil_append, List.append_nil, Nat.zero_add, Nat.add_zero, Nat.reduceAdd, Nat.reduceSub, Nat.reduceMul, Nat.reduceEqDiff, Nat.reduceLT, Nat.reduceLeDiff, Nat.reduceBEq, BEq.rfl, Bool.true_or, Bool.or_true, Bool.false_or, Bool.or_false, Bool.and_true, Bool.true_and, Bool.and_false, Bool.false_and, Bool.and_self, Bool.or_self, Bool.false_eq_true, Bool.true_eq_false, Bool.not_true, Bool.not_false, Nat.lt_add_one, Nat.le_refl, decide_true, decide_false, decide_eq_true_eq, if_true, if_false, ↓reduceIte, true_and, and_true, and_self, false_and, and_false, reduceCtorEq, Nat.sub_zero, Option.some.injEq, Nat.zero_lt_one, Nat.lt_irrefl, ne_eq, not_true_eq_false, not_false_eq_true, V.cells.eq_1, V.cells.eq_2, V.isAgg.eq_1, V.isAgg.eq_2, V.isCell.eq_1, V.isCell.eq_2, V.isCell.eq_3, V.isCell.eq_4, V.isCell.eq_5, V.isCell.eq_6, V.isCell.eq_7, V.isTuple.eq_1, V.isTuple.eq_2, AM.part.eq_1, AM.part.eq_2, AM.part.eq_3, AM.part.eq_4, AM.putPart.eq_1, AM.putPart.eq_2, AM.putPart.eq_3, AM.putPart.eq_4, lenV.eq_1, lenV.eq_2, lenV.eq_3, lenV.eq_4, boundOf.eq_1, boundOf.eq_2, boundOf.eq_3, sliceStrV.eq_1, sliceStrV.eq_2, content.eq_1, content.eq_2, content.eq_3, content.eq_4, content.eq_5, fillCells.eq_1, fillCells.eq_2, fillElems.eq_1, fillElems.eq_2, frz.eq_1, frz.eq_2, frzCell.eq_1, frzCell.eq_2, frzCell.eq_3, frzCell.eq_4, frzCell.eq_5, frzCell.eq_6, frzCells.eq_1, frzCells.eq_2, frzs.eq_1, frzs.go.eq_1, frzs.go.eq_2, importRes.eq_1, importRes.eq_2, importV.eq_1, importV.eq_2, importVs.eq_1, importVs.eq_2, importCell.eq_1, importCell.eq_2, importCell.eq_3, importCells.eq_1, importCells.eq_2, exportCell.eq_1, exportCell.eq_2, exportCells.eq_1, exportCells.eq_2, exportV.eq_1, exportV.eq_2, exportV.eq_3, exportVs.eq_1, exportVs.eq_2, resultOf.eq_1, resultOf.eq_2, resultsOf.eq_1, resultsOf.eq_2, outsOf.eq_1, outsOf.eq_2, outsOf.eq_3, outsOf.eq_4, binV.eq_1, binV.eq_2, binV.eq_3, binV.eq_4, binV.eq_5, binV.eq_6, binV.eq_7, binV.eq_8, binV.eq_9, binV.eq_10, binV.eq_11, binV.eq_12, binV.eq_13, binV.eq_14, binV.eq_15, binV.eq_16, binV.eq_17, binV.eq_18, binV.eq_19, binV.eq_20, binV.eq_21, cmpInt.eq_1, cmpInt.eq_2, cmpInt.eq_3, cmpInt.eq_4, cmpInt.eq_5, cmpInt.eq_6, cmpInt.eq_7, unV.eq_1, unV.eq_2, unV.eq_3, unV.eq_4, min2.eq_1, min2.eq_2, max2.eq_1, max2.eq_2, foldV.eq_1, foldV.eq_2, foldV1.eq_1, foldV1.eq_2, eqK.eq_1, eqK.eq_2, eqK.eq_3, eqK.eq_4, eqKs.eq_1, eqKs.eq_2, eqKs.eq_3, evParts.eq_1, evParts.eq_2, evElems.eq_1, evElems.eq_2, ev.eq_1, ev.eq_2, evs.eq_1, evs.eq_2, evo.eq_1, evo.eq_2, idxAct.eq_1, idxAct.eq_2, idxAct.eq_3, give.eq_1, give.eq_2, leave.eq_1, distinct.eq_1, distinct.eq_2, fin.eq_1, fin.eq_2, fin.eq_3, opAct.eq_1, opAct.eq_2, opAct.eq_3, opAct.eq_4, opAct.eq_5, opAct.eq_6, opAct.eq_7, opAct.eq_8, opAct.eq_9, opAct.eq_10, opAct.eq_11, opAct.eq_12, opAct.eq_13, opAct.eq_14, opAct.eq_15, opAct.eq_16, opAct.eq_17, opAct.eq_18, opAct.eq_19, opAct.eq_20, opAct.eq_21, opAct.eq_23, opAct.eq_24, opAct.eq_26, opAct.eq_27, opAct.eq_28, opAct.eq_29, opAct.eq_30, opAct.eq_31, opAct.eq_32, opAct.eq_34, opAct.eq_35, opAct.eq_36, opAct.eq_37, opAct.eq_38, slcAct.eq_1, apart, freezeAll.eq_1, freezeAll.eq_2, putOuts.eq_1, putOuts.eq_2, putOuts.eq_3, lookRef.eq_1, lookRef.eq_2, List.map_nil, List.map_cons, List.all_nil, List.all_cons, List.contains_nil, List.contains_cons, sliceV.eq_1, sliceV.eq_2, Option.isSome_some, Option.isSome_none, Option.isNone_none, Option.isNone_some, int_beq, int_bne, bne_self_eq_false, Bool.bne_true, Bool.bne_false, Bool.true_bne, Bool.false_bne, window_all, List.isEmpty_cons, List.isEmpty_nil, eq_self, List.replicate_succ, List.replicate_zero, frzs_pure, Int.cast_ofNat_Int, Int.reduceToNat, Int.toNat_zero, Int.toNat_one, Int.reduceAdd, Int.reduceSub, Int.reduceMul, Int.reduceNeg, Int.reduceLE, Int.reduceLT, Int.reduceEq, Int.neg_ofNat_le_ofNat, Int.natCast_nonneg, Int.toNat_natCast, Int.toNat_natCast_add_one, Int.ofNat_lt, wrap64, Int.le_refl, e20, hO96, hcont, hzb, hz0, hz2, app_sl hxs.2, hxs.1, hlim, Nat.zero_le, hpos]
    exact ⟨2, rfl, rfl⟩
  obtain ⟨n, σ4, hrun4, g, hg1, hg2⟩ := hw3
  rw [List.range_eq_range']
  refine region_sound (opHypC (Y := ⟨X, B⟩) hinj n) (h := ({ n := fn.ntmps } : Hints)) rfl h3 ops3.size 0 (by omega) hs3 (by rw [List.drop_zero, k3']; exact hrun4) fun a' w' hs' => ?_
  refine wp_ret ?_
  obtain ⟨hd', _, φ, hr', hle'⟩ := hs'
  have hv2 := hr'.tmps 2
  rw [hg1] at hv2
  exact fini a' w' σ4.O hd' ⟨φ, hle', hr'.objs, 96, g, by omega, hv2, hg2⟩
end
end Go.AM
namespace Go.AM
open Go Go.RowKit
end Go.AM
namespace Go.AM
open Go Go.RowKit
end Go.AM
namespace Go.AM
open Go Go.RowKit
section
variable (P : Program)
def mkEl (e : TypeId) (ws : List V) : V := match P.underlying e with
 | some (.struct _) | some (.array ..) => .agg ws
 | _ => ws.headD undefV
def TVF (tv : TypeId → List V → Prop) : List Field → List V → Prop
 | [], vs => vs = []
 | f :: fs, vs => ∃ a b, vs = a ++ b ∧ a.length = P.cellsOf f.type ∧ tv f.type a ∧ TVF tv fs b
def TVA (tv : List V → Prop) (s : Nat) : Nat → List V → Prop
 | 0, vs => vs = []
 | k + 1, vs => ∃ a b, vs = a ++ b ∧ a.length = s ∧ tv a ∧ TVA tv s k b
def TV : Nat → TypeId → List V → Prop
 | 0, _, _ => False
 | n + 1, t, vs => match P.underlying t with
  | some .bool => ∃ b, vs = [.bool b]
  | some (.int k) => ∃ x, vs = [.int k x] ∧ (Lit.int k x).wf = true
  | some .string => ∃ s, vs = [.str s] ∧ s.length ≤ maxLen
  | some (.slice e) => vs = [.nils] ∨ ∃ xs, vs = [.lit (P.cellsOf e) xs] ∧ xs.length ≤ maxLen ∧ ∀ x ∈ xs, ∃ ws, TV n e ws ∧ x = mkEl P e ws
  | some (.struct fs) => TVF P (TV n) fs.toList vs
  | some (.array k e) => TVA (TV n e) (P.cellsOf e) k vs
  | _ => False
def contig : List Field → Nat → Option Nat
 | [], off => some off
 | f :: fs, off => if f.offset = off then contig fs (off + P.cellsOf f.type) else none
def plainT (S : List TypeId) (t : TypeId) : Bool := match P.underlying t with
 | some .bool | some (.int _) | some .string => P.cellsOf t == 1
 | some (.slice e) => P.cellsOf t == 1 && decide (0 < P.cellsOf e) && S.contains e
 | some (.struct fs) => (contig P fs.toList 0 == some (P.cellsOf t)) && fs.toList.all fun f => S.contains f.type
 | some (.array k e) => S.contains e && P.cellsOf t == k * P.cellsOf e
 | _ => false
end
section
variable {X : TrEnv} {H : Type} {enc : TypeId × Value → H} {w : World} {S : List TypeId} {base : Nat} {spare : Nat → Bool} {held : Bool}
abbrev still (w : World) (φ : Nat → Row) : Mu := ⟨w, φ, fun _ => deadObj⟩
abbrev free (X : TrEnv) : Ctx := ⟨X, fun _ => False⟩
def Good (X : TrEnv) (w : World) (n : Nat) (t : TypeId) (vs : List V) (cs : List Value) : Prop :=
 TV X.P n t vs ∧ vs.all V.isCell = true ∧ V.arePure vs = true ∧ ∀ φ, VRels (free X) (still w φ) vs cs
theorem arePure_appE : ∀ {a b : List V}, V.arePure (a ++ b) = (V.arePure a && V.arePure b)
 | [], b => by simp [V.arePure]
 | x :: a, b => by simp [V.arePure, arePure_appE (a := a), Bool.and_assoc]
theorem fields_good {n : Nat} : ∀ {fs : List Field} {cs : List Value} {off total : Nat}, contig X.P fs off = some total → cs.length = total →
  (∀ f ∈ fs, ∃ vs, Good X w n f.type vs ((cs.drop f.offset).take (X.P.cellsOf f.type))) →
  ∃ vs, TVF X.P (TV X.P n) fs vs ∧ vs.all V.isCell = true ∧ V.arePure vs = true ∧ ∀ φ, VRels (free X) (still w φ) vs (cs.drop off)
 | [], cs, off, total, hc, hl, _ => by
  simp only [contig, Option.some.injEq] at hc
  subst hc
  refine ⟨[], rfl, rfl, rfl, fun φ => ?_⟩
  rw [List.drop_eq_nil_of_le (by omega)]; simp [VRels]
 | f :: fs, cs, off, total, hc, hl, hf => by
  simp only [contig] at hc
  split at hc
  ·rename_i ho
   subst ho
   obtain ⟨a, ha1, ha2, ha3, ha4⟩ := hf f (by simp)
   obtain ⟨b, hb1, hb2, hb3, hb4⟩ := fields_good hc hl (fun g hg => hf g (by simp [hg]))
   have hle : f.offset + X.P.cellsOf f.type ≤ total := by
    clear ha1 ha2 ha3 ha4 hb1 hb2 hb3 hb4 hf
    have : ∀ (fs : List Field) (o tt : Nat), contig X.P fs o = some tt → o ≤ tt := by
     intro fs
     induction fs with
     | nil => intro o tt h; simp [contig] at h; omega
     | cons g gs ih =>
      intro o tt h
      simp only [contig] at h
      split at h
      ·have := ih _ _ h; omega
      ·simp at h
    exact this _ _ _ hc
   have hal : a.length = X.P.cellsOf f.type := by
    have := (ha4 (fun _ => ⟨0, 0, 0⟩)).length
    rw [this]; simp; omega
   refine ⟨a ++ b, ⟨a, b, rfl, hal, ha1, hb1⟩, by simp [ha2, hb2], by rw [arePure_appE, ha3, hb3]; rfl, fun φ => ?_⟩
   have e : cs.drop f.offset = (cs.drop f.offset).take (X.P.cellsOf f.type) ++ cs.drop (f.offset + X.P.cellsOf f.type) := by
    rw [← List.drop_drop, List.take_append_drop]
   rw [e]
   exact VRels.append (ha4 φ) (hb4 φ)
  ·simp at hc
theorem elems_good {n : Nat} {e : TypeId} : ∀ (k : Nat) {cs : List Value} (j : Nat), cs.length = (j + k) * X.P.cellsOf e →
  (∀ i, i < j + k → ∃ vs, Good X w n e vs ((cs.drop (i * X.P.cellsOf e)).take (X.P.cellsOf e))) →
  ∃ vs, TVA (TV X.P n e) (X.P.cellsOf e) k vs ∧ vs.all V.isCell = true ∧ V.arePure vs = true ∧ ∀ φ, VRels (free X) (still w φ) vs (cs.drop (j * X.P.cellsOf e))
 | 0, cs, j, hl, _ => by
  refine ⟨[], rfl, rfl, rfl, fun φ => ?_⟩
  rw [List.drop_eq_nil_of_le (by rw [hl]; simp)]; simp [VRels]
 | k + 1, cs, j, hl, hf => by
  obtain ⟨a, ha1, ha2, ha3, ha4⟩ := hf j (by omega)
  have e1 : j + 1 + k = j + (k + 1) := by omega
  obtain ⟨b, hb1, hb2, hb3, hb4⟩ := elems_good k (cs := cs) (j + 1) (by rw [e1]; exact hl) (fun i hi => hf i (by omega))
  have hal : a.length = X.P.cellsOf e := by
   have := (ha4 (fun _ => ⟨0, 0, 0⟩)).length
   rw [this]; simp
   rw [hl, ← Nat.sub_mul]
   have : 1 ≤ j + (k + 1) - j := by omega
   exact Nat.min_eq_left (Nat.le_mul_of_pos_left _ this)
  refine ⟨a ++ b, ⟨a, b, rfl, hal, ha1, hb1⟩, by simp [ha2, hb2], by rw [arePure_appE, ha3, hb3]; rfl, fun φ => ?_⟩
  have e : cs.drop (j * X.P.cellsOf e) = (cs.drop (j * X.P.cellsOf e)).take (X.P.cellsOf e) ++ cs.drop ((j + 1) * X.P.cellsOf e) := by
   rw [Nat.add_mul, Nat.one_mul, ← List.drop_drop, List.take_append_drop]
  rw [e]
  exact VRels.append (ha4 φ) (hb4 φ)
theorem list_of {α : Type} {p : Nat → α → Prop} : ∀ (n : Nat), (∀ i, i < n → ∃ x, p i x) → ∃ xs : List α, xs.length = n ∧ ∀ i x, xs[i]? = some x → p i x
 | 0, _ => ⟨[], rfl, by simp⟩
 | n + 1, h => by
  obtain ⟨xs, h1, h2⟩ := list_of n (fun i hi => h i (by omega))
  obtain ⟨x, hx⟩ := h n (by omega)
  refine ⟨xs ++ [x], by simp [h1], fun i y hy => ?_⟩
  by_cases hi : i < xs.length
  ·rw [List.getElem?_append_left hi] at hy; exact h2 i y hy
  ·rw [List.getElem?_append_right (by omega)] at hy
   have : i - xs.length = 0 := by
    have := (List.getElem?_eq_some_iff.1 hy).1
    simp at this; omega
   rw [this] at hy
   simp at hy; subst hy
   have : i = n := by omega
   subst this; exact hx
theorem trod_good (hS : S.all (plainT X.P S) = true) : ∀ (n : Nat) (t : TypeId) (cs : List Value) (x : DataW H × List MemPlace), t ∈ S → DataW.trod enc X.P w base spare held n t cs = some x → ∃ vs, Good X w n t vs cs := by
 intro n
 induction n with
 | zero => intro t cs x _ h; simp [DataW.trod] at h
 | succ n ih =>
  intro t cs x ht h
  have hp := List.all_eq_true.1 hS t ht
  unfold plainT at hp
  cases hu : X.P.underlying t with
  | none => rw [hu] at hp; simp at hp
  | some desc =>
   rw [hu] at hp
   cases desc with
   | bool =>
    obtain ⟨b, rfl, _⟩ := DataW.trod_bool hu h
    exact ⟨[.bool b], by simp [TV, hu], rfl, rfl, fun φ => by simp [VRels, VRel]⟩
   | int k =>
    obtain ⟨m, rfl, _, hw⟩ := DataW.trod_int hu h
    exact ⟨[.int k m], by simp [TV, hu, hw], rfl, rfl, fun φ => by simp [VRels, VRel]⟩
   | string =>
    obtain ⟨s, rfl, _, hm⟩ := DataW.trod_string hu h
    exact ⟨[.str s.data.toList], by simp only [TV, hu]; exact ⟨_, rfl, by simpa using hm⟩, rfl, rfl, fun φ => by simp only [VRels, VRel]; exact ⟨⟨s, rfl, rfl⟩, trivial⟩⟩
   | slice e =>
    simp only [Bool.and_eq_true, decide_eq_true_eq] at hp
    obtain ⟨⟨_, hpos⟩, he⟩ := hp
    have he' : e ∈ S := by simpa using he
    rcases DataW.trod_slice hu h with ⟨rfl, _⟩ | ⟨a, len, cap, elems, rest, m, hn, rfl, _, hb, hl, hm, hlen, hel, _, _⟩
    ·exact ⟨[.nils], by simp [TV, hu], rfl, rfl, fun φ => by simp only [VRels, VRel]; exact ⟨⟨none, rfl⟩, trivial⟩⟩
    ·obtain rfl : n = m := by omega
     have each : ∀ i, i < len → ∃ q : V × Value, (∃ ws, TV X.P n e ws ∧ q.1 = mkEl X.P e ws) ∧ q.1.isPure = true ∧ q.1.lies = true ∧ (∀ φ, VRel (free X) (still w φ) q.1 q.2) ∧
       q.2.cells.size = X.P.cellsOf e ∧ ∀ j c, q.2.cells[j]? = some c → w.cell? ((a.add (i * X.P.cellsOf e)).add j) = some c := by
      intro i hi
      have h1 := hel i hi
      rw [List.getElem?_eq_getElem (by omega)] at h1
      rw [Option.bind_eq_some_iff] at h1
      obtain ⟨cs', hc, ht'⟩ := h1
      obtain ⟨_, hcl, hat⟩ := World.cells?_some hc
      obtain ⟨ws, g1, g2, g3, g4⟩ := ih e cs' _ he' ht'
      have hwl : ws.length = cs'.length := (g4 (fun _ => ⟨0, 0, 0⟩)).length
      have hcells : ∀ (v : Value), v.cells.toList = cs' → v.cells.size = X.P.cellsOf e ∧ ∀ j c, v.cells[j]? = some c → w.cell? ((a.add (i * X.P.cellsOf e)).add j) = some c := by
       intro v hv
       have hs : v.cells.size = cs'.length := by rw [← hv]; simp
       refine ⟨by rw [hs, hcl], fun j c hj => ?_⟩
       have hj' : cs'[j]? = some c := by rw [← hv]; simpa using hj
       rw [hat j (by have := (List.getElem?_eq_some_iff.1 hj').1; omega)]; exact hj'
      have hagg : (∃ fs, X.P.underlying e = some (.struct fs)) ∨ (∃ k e', X.P.underlying e = some (.array k e')) ∨ mkEl X.P e ws = ws.headD undefV ∧ ws.length = 1 := by
       have hpe := List.all_eq_true.1 hS e he'
       unfold plainT at hpe
       cases hue : X.P.underlying e with
       | none => rw [hue] at hpe; simp at hpe
       | some d =>
        rw [hue] at hpe
        cases d <;> simp at hpe
        case struct fs => exact .inl ⟨fs, rfl⟩
        case array k e' => exact .inr (.inl ⟨k, e', rfl⟩)
        all_goals exact .inr (.inr ⟨by simp [mkEl, hue], by simp_all⟩)
      have asAgg : mkEl X.P e ws = .agg ws → ∃ q : V × Value, (∃ ws, TV X.P n e ws ∧ q.1 = mkEl X.P e ws) ∧ q.1.isPure = true ∧ q.1.lies = true ∧ (∀ φ, VRel (free X) (still w φ) q.1 q.2) ∧
        q.2.cells.size = X.P.cellsOf e ∧ ∀ j c, q.2.cells[j]? = some c → w.cell? ((a.add (i * X.P.cellsOf e)).add j) = some c := by
       intro hmk
       refine ⟨(mkEl X.P e ws, .agg cs'.toArray), ⟨ws, g1, rfl⟩, ?_, ?_, fun φ => ?_, hcells _ (by simp [Value.cells])⟩
       ·simp only [hmk, V.isPure, g3]
       ·simp [hmk, V.lies, V.isAgg]
       ·simp only [hmk, VRel]; exact ⟨g2, _, rfl, by simpa using g4 φ⟩
      rcases hagg with ⟨fs, hs⟩ | ⟨k, e', hs⟩ | ⟨hmk, h1⟩
      ·exact asAgg (by simp [mkEl, hs])
      ·exact asAgg (by simp [mkEl, hs])
      ·match ws, h1, cs', hwl, g1, g2, g3, g4, hcells with
       | [x], _, [c], _, g1, g2, g3, g4, hcells =>
        have g4' : ∀ φ, VRel (free X) (still w φ) x c := fun φ => by have := g4 φ; simp only [VRels] at this; exact this.1
        have g2' : x.isCell = true := by simpa using g2
        refine ⟨(x, c), ⟨[x], g1, by simp [hmk]⟩, by simpa [V.arePure] using g3, by simp [V.lies, g2'], g4', hcells c ?_⟩
        rw [((g4' (fun _ => ⟨0, 0, 0⟩)).oneCell g2').2]
     obtain ⟨qs, q1, q2⟩ := list_of len each
     refine ⟨[.lit (X.P.cellsOf e) (qs.map (·.1))], ?_, rfl, rfl, fun φ => ?_⟩
     ·simp only [TV, hu]
      refine .inr ⟨_, rfl, by simp [q1]; omega, fun x hx => ?_⟩
      obtain ⟨q, hq, rfl⟩ := List.mem_map.1 hx
      obtain ⟨i, hi⟩ := List.mem_iff_getElem?.1 hq
      exact (q2 i q hi).1
     ·simp only [VRels, VRel, and_true]
      refine ⟨arePure_of' fun x hx => ?_, ?_, some a, cap, qs.map (·.2), by simp [q1], by simp [q1]; omega, ?_, ?_⟩
      ·obtain ⟨q, hq, rfl⟩ := List.mem_map.1 hx
       obtain ⟨i, hi⟩ := List.mem_iff_getElem?.1 hq
       exact (q2 i q hi).2.1
      ·rw [List.all_eq_true]
       intro x hx
       obtain ⟨q, hq, rfl⟩ := List.mem_map.1 hx
       obtain ⟨i, hi⟩ := List.mem_iff_getElem?.1 hq
       exact (q2 i q hi).2.2.1
      ·refine VRels.of_get (by simp) fun i y u hy hu => ?_
       rw [List.getElem?_map] at hy hu
       cases hq : qs[i]? with
       | none => simp [hq] at hy
       | some q =>
        simp [hq] at hy hu
        subst hy hu
        exact (q2 i q hq).2.2.2.1 φ
      ·cases qs with
       | nil => exact .inl rfl
       | cons q0 qs =>
        right
        have hcell : ∀ (i : Nat) (q : V × Value), (q0 :: qs)[i]? = some q → ∀ j c, q.2.cells[j]? = some c → w.cell? ((a.add (i * X.P.cellsOf e)).add j) = some c := fun i q hi => (q2 i q hi).2.2.2.2.2
        have hsz : ∀ (i : Nat) (q : V × Value), (q0 :: qs)[i]? = some q → q.2.cells.size = X.P.cellsOf e := fun i q hi => (q2 i q hi).2.2.2.2.1
        have h0 := hcell 0 q0 rfl 0 (q0.2.cells[0]'(by rw [hsz 0 q0 rfl]; exact hpos)) (Array.getElem?_eq_getElem _)
        obtain ⟨ab, ao, asp⟩ := a
        have hsp : asp = none ∧ ab < w.heap.size := by
         simp only [Nat.zero_mul, Addr.add, if_true, World.cell?] at h0
         split at h0
         ·rename_i c T f hh
          split at h0
          ·simp at h0
          ·rename_i hn
           exact ⟨by cases asp <;> simp_all, (Array.getElem?_eq_some_iff.1 hh).1⟩
         ·simp at h0
        obtain ⟨rfl, hlt⟩ := hsp
        refine ⟨ab, ao, rfl, ?_, hlt, fun i v hv => ?_⟩
        ·rintro (⟨r, h1, _⟩ | h)
         ·simp [deadObj] at h1
         ·exact h
        ·rw [List.getElem?_map] at hv
         cases hq : (q0 :: qs)[i]? with
         | none => simp [hq] at hv
         | some q =>
          simp [hq] at hv
          subst hv
          refine ⟨hsz i q hq, fun j c hc => ?_⟩
          have := hcell i q hq j c hc
          have hadd : ∀ o m, Addr.add ⟨ab, o, none⟩ m = ⟨ab, o + m, none⟩ := by
           intro o m
           simp only [Addr.add]
           split
           ·rename_i h0; subst h0; rfl
           ·rfl
          rw [hadd, hadd] at this
          exact this
   | struct fs =>
    simp only [Bool.and_eq_true, beq_iff_eq] at hp
    obtain ⟨hcont, hall⟩ := hp
    obtain ⟨xs, m, hm, _, hlen, hxl, hf⟩ := DataW.trod_struct hu h
    obtain rfl : n = m := by omega
    have key : ∀ f ∈ fs.toList, ∃ vs, Good X w n f.type vs ((cs.drop f.offset).take (X.P.cellsOf f.type)) := by
     intro f hfm
     obtain ⟨i, hi⟩ := List.mem_iff_getElem?.1 hfm
     have hi' : fs[i]? = some f := by simpa using hi
     have h1 := hf i f hi'
     have hil : i < xs.length := by rw [hxl]; exact (Array.getElem?_eq_some_iff.1 hi').1
     rw [List.getElem?_eq_getElem hil] at h1
     exact ih f.type _ _ (by have := List.all_eq_true.1 hall f hfm; simpa using this) h1
    obtain ⟨vs, k1, k2, k3, k4⟩ := fields_good hcont hlen key
    exact ⟨vs, by simp only [TV, hu]; exact k1, k2, k3, fun φ => by simpa using k4 φ⟩
   | array k e =>
    simp only [Bool.and_eq_true, beq_iff_eq] at hp
    obtain ⟨he, hsz⟩ := hp
    obtain ⟨xs, m, hm, _, hlen, hxl, hf⟩ := DataW.trod_array hu h
    obtain rfl : n = m := by omega
    have key : ∀ i, i < 0 + k → ∃ vs, Good X w n e vs ((cs.drop (i * X.P.cellsOf e)).take (X.P.cellsOf e)) := by
     intro i hi
     have h1 := hf i (by omega)
     rw [List.getElem?_eq_getElem (by omega)] at h1
     exact ih e _ _ (by simpa using he) h1
    obtain ⟨vs, k1, k2, k3, k4⟩ := elems_good k 0 (by rw [hlen, hsz]; simp) key
    exact ⟨vs, by simp only [TV, hu]; exact k1, k2, k3, fun φ => by simpa using k4 φ⟩
   | _ => simp at hp
where
 arePure_of' {cs : List V} (h : ∀ x ∈ cs, V.isPure x = true) : V.arePure cs = true := by
  induction cs with
  | nil => rfl
  | cons c cs ih => simp only [V.arePure, Bool.and_eq_true]; exact ⟨h c (by simp), ih fun x hx => h x (by simp [hx])⟩
end
end Go.AM
namespace Go.AM
open Go Go.RowKit
def FnFact (X : TrEnv) (g : Nat) (af : AFunc) : Prop := ∃ F fn h c, X.fnum F = some g ∧ X.P.funcs[F]? = some fn ∧ (fn.name == "runtime.NumGoroutine") = false ∧ fn.body = some c ∧ trFunc X h fn = some af ∧ af.nparams ≤ fn.ntmps
def AllFacts (X : TrEnv) : List (Nat × AFunc) → Prop
 | [] => True
 | p :: ps => FnFact X p.1 p.2 ∧ AllFacts X ps
def ExtFact (X : TrEnv) (g : Nat) (fn : List V → Option Res) : Prop := ∃ F, X.fnum F = some g ∧ ∀ as res, fn as = some res → SoundCall X F as res
def AllExt (X : TrEnv) : List (Nat × (List V → Option Res)) → Prop
 | [] => True
 | p :: ps => ExtFact X p.1 p.2 ∧ AllExt X ps
theorem AllFacts.mem {X : TrEnv} : ∀ {tab : List (Nat × AFunc)}, AllFacts X tab → ∀ p ∈ tab, FnFact X p.1 p.2
 | [], _, p, hp => by simp at hp
 | q :: qs, h, p, hp => by
  rcases List.mem_cons.1 hp with rfl | hp
  ·exact h.1
  ·exact AllFacts.mem h.2 p hp
theorem AllExt.mem {X : TrEnv} : ∀ {tab : List (Nat × (List V → Option Res))}, AllExt X tab → ∀ p ∈ tab, ExtFact X p.1 p.2
 | [], _, p, hp => by simp at hp
 | q :: qs, h, p, hp => by
  rcases List.mem_cons.1 hp with rfl | hp
  ·exact h.1
  ·exact AllExt.mem h.2 p hp
def distinctB : List Nat → Bool
 | [] => true
 | x :: xs => !xs.contains x && distinctB xs
theorem distinctB_inj : ∀ {l : List Nat}, distinctB l = true → ∀ {i j x : Nat}, l[i]? = some x → l[j]? = some x → i = j
 | [], _, i, j, x, h, _ => by simp at h
 | y :: l, hd, i, j, x, hi, hj => by
  simp only [distinctB, Bool.and_eq_true, Bool.not_eq_true'] at hd
  have hno : ∀ k : Nat, l[k]? = some y → False := fun k hk => by
   have : l.contains y = true := by simpa using List.mem_of_getElem? hk
   rw [hd.1] at this; simp at this
  cases i with
  | zero =>
   cases j with
   | zero => rfl
   | succ j => simp at hi hj; subst hi; exact (hno j hj).elim
  | succ i =>
   cases j with
   | zero => simp at hi hj; subst hj; exact (hno i hi).elim
   | succ j => simp at hi hj; rw [distinctB_inj hd.2 hi hj]
theorem envOk_of {P : Program} {fl : List Nat} {tl : List (Nat × Nat)} (hf : distinctB fl = true) (ht : distinctB (tl.map (·.2)) = true) (hm : P.follows .mixedOrders = true) {tab : List (Nat × AFunc)} {ext : List (Nat × (List V → Option Res))} :
  let X : TrEnv := ⟨P, fun F => fl[F]?, fun t => (tl.find? (·.1 == t)).map (·.2)⟩
  AllFacts X tab → AllExt X ext → EnvSnd X ⟨fnOf tab, extOf ext⟩ := by
 intro X h1 h2
 have hinjF : ∀ F F' g, X.fnum F = some g → X.fnum F' = some g → F = F' := fun F F' g h h' => distinctB_inj hf h h'
 refine ⟨fun t1 t2 k h h' => ?_, hm, fun f af F h hF => ?_, fun f as res F h hF => ?_⟩
 ·simp only [X, Option.map_eq_some_iff] at h h'
  obtain ⟨p, hp, rfl⟩ := h
  obtain ⟨q, hq, hqp⟩ := h'
  have e1 := List.find?_some hp
  have e2 := List.find?_some hq
  obtain ⟨i, hi⟩ := List.mem_iff_getElem?.1 (List.mem_of_find?_eq_some hp)
  obtain ⟨j, hj⟩ := List.mem_iff_getElem?.1 (List.mem_of_find?_eq_some hq)
  have : i = j := distinctB_inj ht (i := i) (j := j) (x := p.2) (by simp [hi]) (by simp [hj, hqp])
  subst this
  rw [hi] at hj; injection hj with hj; subst hj
  simp at e1 e2; exact e1.symm.trans e2
 ·simp only [fnOf, Option.map_eq_some_iff] at h
  obtain ⟨p, hp, rfl⟩ := h
  have e1 := List.find?_some hp
  simp at e1; subst e1
  obtain ⟨F', fn, hh, c, k1, k2, k3, k4, k5, k6⟩ := AllFacts.mem h1 p (List.mem_of_find?_eq_some hp)
  obtain rfl := hinjF F F' _ hF k1
  exact ⟨fn, hh, c, k2, k3, k4, k5, k6⟩
 ·simp only [extOf] at h
  split at h
  ·rename_i p hp
   have e1 := List.find?_some hp
   simp at e1; subst e1
   obtain ⟨F', k1, k2⟩ := AllExt.mem h2 p (List.mem_of_find?_eq_some hp)
   obtain rfl := hinjF F F' _ hF k1
   exact k2 as res h
  ·simp at h
theorem below_of_le {μ μ' : Mu} (h : Le μ μ') (hno : ∀ b, ¬ μ.own b) : Below μ.w.heap.size μ.w μ'.w :=
 ⟨h.os, h.tape, h.output, h.size, fun k hk => (h.keep k hk (hno k)).1⟩
theorem law_calls {X : TrEnv} {E : Env} (hE : EnvSnd X E) {F g : Nat} (hF : X.fnum F = some g) {fn : Func} (hfn : X.P.funcs[F]? = some fn) (hname : (fn.name == "runtime.NumGoroutine") = false) {cd : Code} (hbody : fn.body = some cd)
  {args : List V} {b : Bool} (hev : Ev E g args ⟨.bool b, []⟩) (hp : V.arePure args = true) {w : World} {vals : List Value} (hv : ∀ φ, VRels (free X) (still w φ) args vals) :
  Calls X.P F vals.toArray w fun e w' => e = .returned (.bool b) ∧ Below w.heap.size w w' ∧ ∀ a, w'.frozen? a = w.frozen? a := by
 obtain ⟨n, hn⟩ := hev
 have hs : SoundCall X F args ⟨.bool b, []⟩ := call_sound_all hE n g F args _ hF hn
 have hO : (enter args).O = fun _ => deadObj := enter_O_pure hp
 have hT : ∀ (t : Nat) (a : V), args[t]? = some a → (enter args).T t = a := fun t a ha => by rw [enter_pure hp]; simp [List.getD, ha]
 have hvr := hv (fun _ => ⟨0, 0, 0⟩)
 have hU := hs (fun _ => False) w (fun _ => ⟨0, 0, 0⟩) vals hvr.length.symm (fun t v' hv' => by
  have hl : t < args.length := by rw [hvr.length]; exact (List.getElem?_eq_some_iff.1 hv').1
  obtain ⟨u, hu, hrel⟩ := hvr.get (List.getElem?_eq_getElem hl)
  rw [hv'] at hu; injection hu with hu; subst hu
  rw [hT t _ (List.getElem?_eq_getElem hl), hO]; exact hrel) (by
  rw [hO]
  exact ⟨fun r es h => by simp [deadObj] at h, fun r1 r2 _ h => by simp [deadObj] at h, fun r h => by simp [deadObj] at h, fun b h => h.elim⟩)
 have hcf : (callFunc F vals.toArray).run X.P w = .ok (.enter F vals.toArray) w := by
  simp [callFunc, Sem.run_bind, program, Sem.run, hfn, hbody]
  simpa using hname
 rw [hcf] at hU
 simp only [Upon] at hU
 refine Calls.mono hU fun e w' he => ?_
 cases e with
 | panicked c => exact he.elim
 | outgrown => exact he.elim
 | returned val =>
  obtain ⟨φ', T', O', v0, refs, k1, k2, k3, k4, k5, k6⟩ := he
  have hno : ∀ b, ¬ (Mu.mk w (fun _ => ⟨0, 0, 0⟩) (enter args).O).own b := fun b => by rw [hO]; rintro ⟨r, h, _⟩; simp [deadObj] at h
  refine ⟨?_, below_of_le k1 hno, fun a => ?_⟩
  ·have := (k4.expR k2 k3).pure rfl
   simp only [VRel] at this
   rw [this]
  ·rcases Nat.lt_or_ge a.block w.heap.size with hl | hl
   ·exact k1.frozen a hl
   ·rw [k1.fresh a hl, frozen_out hl]
end Go.AM
