/-
  Functions of the abstract machine against the model's. Own work.
-/
import Derived.Test.YtnjbmkcbhnkggaaAmCall9
import Derived.Test.YtnjbmkcbhnkggaaAmCode
set_option linter.unusedSimpArgs false
namespace Go.AM
open Go Go.RowKit

/-- the environment's functions are the program's -/
structure EnvOk (X : TrEnv) (E : Env) : Prop where
  inj : ∀ t1 t2 k, X.tnum t1 = some k → X.tnum t2 = some k → t1 = t2
  mixed : X.P.follows .mixedOrders = true
  fn : ∀ f af F, E.fn f = some af → X.fnum F = some f → ∃ fn h c, X.P.funcs[F]? = some fn ∧ (fn.name == "runtime.NumGoroutine") = false ∧ fn.body = some c ∧ trFunc X h fn = some af ∧ af.nparams ≤ fn.ntmps
  ext : ∀ f as res F, E.ext f as = some res → X.fnum F = some f → SoundCall X F as res

section
variable {X : Ctx} {T : Nat → V} {a : Go.Act} {μ : Mu}

theorem result_sound (hr : Rel X T a μ) {r : ResultVar} {r' : ARes} (htr : trResult X r = some r') {v : V} (h : resultOf ⟨T, μ.O⟩ r' = some v) :
    ∃ val, ((match r with | .tmp t => pure (a.tmps.getD t undef) | .cell c t => do loadVar t (← asAddr (a.tmps.getD c undef)) : Sem Value)).run X.P μ.w = .ok val μ.w ∧ VRel X μ v val := by
  cases r with
  | tmp t =>
    simp [trResult] at htr; subst htr
    simp only [resultOf, Option.some.injEq] at h; subst h
    exact ⟨_, rfl, hr.tmps t⟩
  | cell c t =>
    simp only [trResult] at htr
    split at htr
    · rename_i g sz hg hn
      injection htr with htr; subst htr
      simp only [resultOf] at h
      split at h
      · rename_i r gn idx off e
        split at h
        · rename_i es hes
          split at h
          · rename_i hgen
            split at h
            · rename_i el hel
              have hx := hr.tmps c
              rw [e] at hx
              simp only [VRel] at hx
              obtain ⟨p, hpv, _, haddr⟩ := hx
              obtain ⟨xv, hxv, _, hmem⟩ := obj_elem hr.objs hes hel
              obtain ⟨val, hl, hrel⟩ := load_from hxv h hg hn hmem
              refine ⟨val, ?_, hrel⟩
              rw [haddr hgen] at hpv
              show (do loadVar t (← asAddr (a.tmps.getD c undef)) : Sem Value).run X.P μ.w = _
              rw [hpv]
              simpa [Sem.run_bind, asAddr, Sem.run] using hl
            · simp at h
          · simp at h
        · simp at h
      · simp at h
    · simp at htr

theorem results_list (hr : Rel X T a μ) : ∀ {rs : List ResultVar} {rs' : List ARes} {vs : List V}, trResults X rs = some rs' → resultsOf ⟨T, μ.O⟩ rs' = some vs →
    ∃ vals, (rs.mapM (fun r => (match r with | .tmp t => pure (a.tmps.getD t undef) | .cell c t => do loadVar t (← asAddr (a.tmps.getD c undef)) : Sem Value))).run X.P μ.w = .ok vals μ.w ∧ VRels X μ vs vals
  | [], rs', vs, h1, h2 => by
    simp [trResults] at h1; subst h1
    simp [resultsOf] at h2; subst h2
    exact ⟨[], by simp [Sem.run], by simp [VRels]⟩
  | r :: rs, rs', vs, h1, h2 => by
    simp only [trResults] at h1
    split at h1
    · rename_i r1 rs1 k1 k2
      injection h1 with h1; subst h1
      simp only [resultsOf] at h2
      split at h2
      · rename_i v vs1 m1 m2
        injection h2 with h2; subst h2
        obtain ⟨val, n1, n2⟩ := result_sound hr k1 m1
        obtain ⟨vals, p1, p2⟩ := results_list hr k2 m2
        refine ⟨val :: vals, ?_, by simp only [VRels]; exact ⟨n2, p2⟩⟩
        simp only [List.mapM_cons, Sem.run_bind, n1, Result.andThen, p1]
        rfl
      · simp at h2
    · simp at h1

theorem results_sound (hr : Rel X T a μ) {fn : Func} {rs' : List ARes} {vs : List V} (h1 : trResults X fn.results.toList = some rs') (h2 : resultsOf ⟨T, μ.O⟩ rs' = some vs) :
    ∃ vals, (results fn a.tmps).run X.P μ.w = .ok (match vals with | [v] => v | vs => .tuple vs.toArray) μ.w ∧ VRels X μ vs vals := by
  obtain ⟨vals, k1, k2⟩ := results_list hr h1 h2
  refine ⟨vals, ?_, k2⟩
  have hm : (fn.results.mapM (fun r => (match r with | .tmp t => pure (a.tmps.getD t undef) | .cell c t => do loadVar t (← asAddr (a.tmps.getD c undef)) : Sem Value))).run X.P μ.w = .ok vals.toArray μ.w := by
    rw [Array.mapM_eq_mapM_toList]
    show Sem.run X.P (_ >>= fun l => pure (List.toArray l)) _ = _
    rw [Sem.run_bind, k1]
    rfl
  unfold results
  rw [Sem.run_bind]
  refine (congrArg (fun r => Result.andThen r (fun vs w' => Sem.run X.P (pure (if h : vs.size = 1 then vs[0] else Value.tuple vs)) w')) hm).trans ?_
  match vals with
  | [] => rfl
  | [v] => rfl
  | _ :: _ :: _ => rfl

end

section
variable {X : TrEnv} {E : Env}

theorem leave_out {af : AFunc} {args : List V} {σ : St} {res : Res} (h : leave af args σ = some res) :
    ∃ vs, resultsOf σ af.results = some vs ∧ outsOf σ.O 0 args = some res.outs ∧ ∃ refs, distinct refs = true ∧
      ∀ v0, v0 = (match vs with | [v] => v | vs => .tuple vs) → Exported args.length σ v0 res.val refs := by
  unfold leave at h
  split at h
  · rename_i vs outs h1 h2
    refine ⟨vs, h1, ?_⟩
    split at h
    · rename_i v rs hx
      split at h
      · rename_i hd
        injection h with h; subst h
        refine ⟨h2, rs, hd, ?_⟩
        rintro v0 rfl
        match vs, hx with
        | [u], hx =>
          simp only [exportVs] at hx
          split at hx
          · rename_i c' r cs' rs' k1 k2
            simp only [Option.some.injEq, Prod.mk.injEq, List.cons.injEq] at hx k2
            obtain ⟨⟨rfl, rfl⟩, rfl⟩ := hx
            obtain ⟨_, rfl⟩ := k2
            simpa using Exported.one k1
          · simp at hx
        | [], hx => simp [exportVs] at hx
        | _ :: _ :: _, hx =>
          simp only [exportVs] at hx
          split at hx
          · rename_i k1 k2
            split at k2
            · simp only [Option.some.injEq, Prod.mk.injEq] at hx k2
              obtain ⟨e1, _⟩ := k2
              subst e1
              simp at hx
            · simp at k2
          · simp at hx
      · simp at h
    · rename_i vs' rs hns hx
      split at h
      · rename_i hd
        injection h with h; subst h
        refine ⟨h2, rs, hd, ?_⟩
        rintro v0 rfl
        match vs, hx with
        | [u], hx =>
          exfalso
          simp only [exportVs] at hx
          split at hx
          · rename_i c' r cs' rs' k1 k2
            simp only [Option.some.injEq, Prod.mk.injEq] at hx k2
            obtain ⟨rfl, rfl⟩ := hx
            obtain ⟨rfl, _⟩ := k2
            exact hns _ rfl
          · simp at hx
        | [], hx => exact .many hx
        | _ :: _ :: _, hx => exact .many hx
      · simp at h
    · simp at h
  · simp at h

theorem body_sound (hE : EnvOk X E) {n : Nat} (hH : ∀ m, m < n → ∀ (B : Nat → Prop), OpHyp ⟨X, B⟩ E (callWith E (exec E m))) {f : Nat} {af : AFunc} {F : FuncId} (hf : E.fn f = some af) (hF : X.fnum F = some f)
    {args : List V} {res : Res} {e : AExit} {σ : St} (hlen : args.length = af.nparams) (hx : exec E n af.body (enter args) = some (e, σ)) (he : e = .normal ∨ e = .ret) (hl : leave af args σ = some res) : SoundCall X F args res := by
  obtain ⟨fn, h, c, hfn, hname, hbody, htr, hle⟩ := hE.fn f af F hf hF
  intro B w φ0 vals hvl hv ho
  have hcf : (callFunc F vals.toArray).run X.P w = .ok (.enter F vals.toArray) w := by
    have hname' : (fn.name == "runtime.NumGoroutine") = false := hname
    simp [callFunc, Sem.run_bind, program, Sem.run, hfn, hname', hbody]
    simpa using hname
  rw [hcf]
  unfold trFunc at htr
  rw [hbody] at htr
  simp only at htr
  split at htr
  · rename_i ac rs hc hrs
    injection htr with htr
    subst htr
    simp only [Upon]
    refine calls_of_wp hfn hbody ?_
    have hsz : vals.toArray.size ≤ fn.ntmps := by simp [hvl, hlen]; exact hle
    have hsim : Sim ⟨X, B⟩ ⟨w, φ0, (enter args).O⟩ fn.ntmps (enter args) { tmps := vals.toArray ++ Array.replicate (fn.ntmps - vals.toArray.size) undef, defers := [] } w := by
      refine ⟨rfl, by simp at hsz ⊢; omega, φ0, ⟨fun t => ?_, ho⟩, Le.refl _⟩
      by_cases ht : t < vals.length
      · have e1 : (vals.toArray ++ Array.replicate (fn.ntmps - vals.toArray.size) undef).getD t undef = vals[t] := by
          simp [Array.getElem?_append, ht]
        rw [e1]
        exact hv t _ (List.getElem?_eq_getElem ht)
      · have e1 : (vals.toArray ++ Array.replicate (fn.ntmps - vals.toArray.size) undef).getD t undef = undef := by
          simp [Array.getElem?_append, ht, Array.getElem?_replicate]
          split <;> rfl
        have e2 : (enter args).T t = undefV := by
          have : args[t]? = none := List.getElem?_eq_none (by omega)
          simp [enter, this]
        rw [e1, e2]
        exact undef_rel
    refine wp_mono (code_sound (X := ⟨X, B⟩) hE.mixed (h := { h with n := fn.ntmps }) rfl n (fun m hm => hH m hm B) c ac _ _ e _ w hc hx hsim) fun ex a' w' hq => ?_
    obtain ⟨rfl, hdef, _, φ', hr, hle'⟩ := hq
    obtain ⟨vs, l1, l2, refs, l3, l4⟩ := leave_out hl
    obtain ⟨rvals, r1, r2⟩ := results_sound hr hrs l1
    have fin : a'.defers = [] ∧ ∃ v, (results fn a'.tmps).run X.P w' = .ok v w' ∧ ∃ φ' T' O' v0 refs, Le ⟨w, φ0, (enter args).O⟩ ⟨w', φ', O'⟩ ∧ Objs ⟨X, B⟩ ⟨w', φ', O'⟩ ∧
      VRel ⟨X, B⟩ ⟨w', φ', O'⟩ v0 v ∧ Exported args.length ⟨T', O'⟩ v0 res.val refs ∧ distinct refs = true ∧ outsOf O' 0 args = some res.outs := by
      refine ⟨hdef, _, r1, φ', σ.T, σ.O, _, refs, hle', hr.objs, ?_, l4 _ rfl, l3, l2⟩
      match vs, rvals, r2 with
      | [], [], r2 => simp only [VRel]; exact ⟨_, rfl, by simpa using r2⟩
      | [v], [u], r2 => simp only [VRels] at r2; exact r2.1
      | _ :: _ :: _, _ :: _ :: _, r2 => simp only [VRel]; exact ⟨_, rfl, by simpa using r2⟩
      | [], _ :: _, r2 => simp [VRels] at r2
      | _ :: _, [], r2 => simp [VRels] at r2
      | [_], _ :: _ :: _, r2 => simp [VRels] at r2
      | _ :: _ :: _, [_], r2 => simp [VRels] at r2
    rcases he with rfl | rfl
    · exact fin
    · exact fin
  · simp at htr

theorem call_sound_all (hE : EnvOk X E) : ∀ (n : Nat) (f : Nat) (F : FuncId) (args : List V) (res : Res), X.fnum F = some f → call E n f args = some res → SoundCall X F args res := by
  intro n
  induction n using Nat.strongRecOn with
  | _ n ih =>
    intro f F args res hF h
    unfold call callWith at h
    split at h
    · rename_i r he
      injection h with h; subst h
      exact hE.ext f args r F he hF
    · split at h
      · rename_i af hf
        split at h
        · rename_i hlen
          have hH : ∀ m, m < n → ∀ (B : Nat → Prop), OpHyp ⟨X, B⟩ E (callWith E (exec E m)) := fun m hm B => op_hyp hE.inj fun f F as res h1 h2 => ih m hm f F as res h1 h2
          split at h
          · rename_i σ hx; exact body_sound hE hH hf hF hlen hx (.inl rfl) h
          · rename_i σ hx; exact body_sound hE hH hf hF hlen hx (.inr rfl) h
          · simp at h
        · simp at h
      · simp at h

end
end Go.AM
