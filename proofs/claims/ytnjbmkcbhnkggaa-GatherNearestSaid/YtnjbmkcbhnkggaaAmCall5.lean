/-
  Calls: what the callee left in what it was handed. Own work.
-/
import Derived.Test.YtnjbmkcbhnkggaaAmCall4
set_option linter.unusedSimpArgs false
namespace Go.AM
open Go Go.RowKit

section
variable {X Y : Ctx} {μ μf μ1 : Mu} {r0 : Nat} {C : Oracle} {T : Nat → V}

theorem took_whole (h1 : Objs Y μ1) {r i : Nat} {es : List V} {o : Obj} (hes : (μ1.O i).es = some es) (hfz : (μ1.O i).fz = false) (hp : V.arePure es = true) (ho : o.es = some es) (hsz : o.sz = (μ1.O i).sz)
    (hg : (μf.O r).gen < o.gen ∨ (o.gen = (μf.O r).gen ∧ μ1.φ i = μf.φ r ∧ o.sz = (μf.O r).sz)) : Took Y μf μ1 r i (μ1.φ i) o := by
  obtain ⟨q1, q2, q3, q4⟩ := h1.ok i es hes
  refine ⟨⟨es, ho, hp, by rw [hsz]; exact q1, q2, by rw [hsz]; exact q3, ?_⟩, ⟨by simp [hes], hfz⟩, fun hc => ⟨hc, rfl⟩, hg, fun hs es' he => ?_⟩
  · rw [hsz]; exact q4
  · rw [ho] at he; injection he with he; subst he; exact hs _ hes

theorem outs_cons_sl {O : Nat → Obj} {i sz off len : Nat} {es0 : List V} {as : List V} {outs : List (Nat × List V)} (h : outsOf O i (.msl sz es0 off len :: as) = some outs) :
    ∃ es outs', (O i).es = some es ∧ outsOf O (i + 1) as = some outs' ∧ (O i).fz = false ∧ (O i).sz = sz ∧ V.arePure es = true ∧ outs = ((O i).gen, es) :: outs' := by
  simp only [outsOf] at h
  split at h
  · rename_i es outs' h1 h2
    split at h
    · rename_i hc
      injection h with h
      exact ⟨es, outs', h1, h2, hc.1, hc.2.1, hc.2.2, h.symm⟩
    · simp at h
  · simp at h
theorem outs_cons_ptr {O : Nat → Obj} {i sz off len : Nat} {es0 : List V} {as : List V} {outs : List (Nat × List V)} (h : outsOf O i (.mptr sz es0 off len :: as) = some outs) :
    ∃ es outs', (O i).es = some es ∧ outsOf O (i + 1) as = some outs' ∧ (O i).fz = false ∧ (O i).sz = sz ∧ V.arePure es = true ∧ outs = ((O i).gen, es) :: outs' := by
  simp only [outsOf] at h
  split at h
  · rename_i es outs' h1 h2
    split at h
    · rename_i hc
      injection h with h
      exact ⟨es, outs', h1, h2, hc.1, hc.2.1, hc.2.2, h.symm⟩
    · simp at h
  · simp at h
theorem outs_cons_pure {O : Nat → Obj} {i : Nat} {a : V} {as : List V} (h : V.isPure a = true) : outsOf O i (a :: as) = outsOf O (i + 1) as := by
  cases a <;> simp [V.isPure] at h <;> rfl

theorem putOuts_sound (h1 : Objs Y μ1) {w0 : List WRef} (hrow : ∀ w ∈ w0, w.fresh = none → (μ1.O w.i).gen = 0 → μ1.φ w.i = μ.φ w.r) (hφ : μf.φ = μ.φ) (hOf : ∀ w ∈ w0, μf.O w.r = μ.O w.r) {S : Nat → Prop} (hS : ∀ w ∈ w0, S w.i) :
    ∀ {i : Nat} {as : List V} {vs : List Value} {rs : List Nat} {ws : List WRef}, Prep X μ r0 i as vs rs ws → ∀ {outs : List (Nat × List V)} {A : Nat → Option Nat} {φ : Nat → Row} {O : Nat → Obj} {k : List (Nat × Nat × Nat) → Act} {p : V × St},
      outsOf μ1.O i as = some outs → Taken Y μf μ1 (fun j => j < i ∧ S j) A φ O → (∀ w ∈ ws, w ∈ w0) → (∀ w ∈ ws, A w.r = none) → distinct (ws.map (·.r)) = true → (putOuts ws outs k).run C ⟨T, O⟩ = some p →
      ∃ A' φ' O' gs, (k gs).run C ⟨T, O'⟩ = some p ∧ Taken Y μf μ1 (fun j => j < i + as.length ∧ S j) A' φ' O' ∧ GMono φ O φ' O' ∧ (∀ w ∈ ws, A' w.r ≠ none) ∧ (∀ r, A r ≠ none → A' r ≠ none) ∧
        ∀ x ∈ gs, RefOk μ1 φ' O' x.1 x.2.1 x.2.2 := by
  intro i as vs rs ws hp
  induction hp with
  | nil i =>
    intro outs A φ O k p ho ht _ _ _ hrun
    simp [outsOf] at ho; subst ho
    exact ⟨A, φ, O, [], hrun, by simpa using ht, GMono.refl _ _, by simp, fun _ h => h, by simp⟩
  | @plain i a v rs rs' as vs ws hpu hs h ih =>
    intro outs A φ O k p ho ht hw hA hd hrun
    rw [outs_cons_pure hpu] at ho
    have ht' : Taken Y μf μ1 (fun j => j < i + 1 ∧ S j) A φ O := ⟨ht.non, fun r j e => ⟨(ht.som r j e).1, ⟨by have := (ht.som r j e).2.1; omega, (ht.som r j e).2.2⟩⟩, ht.inj⟩
    obtain ⟨A', φ', O', gs, k1, k2, k3, k4, k5, k6⟩ := ih ho ht' hw hA hd hrun
    refine ⟨A', φ', O', gs, k1, ?_, k3, k4, k5, k6⟩
    have e : i + (a :: as).length = i + 1 + as.length := by simp; omega
    rw [e]; exact k2
  | @sl i r g off len es0 v rs as vs ws hes hfz hgen hpu hfit hv h ih =>
    intro outs A φ O k p ho ht hw hA hd hrun
    obtain ⟨es, outs', o1, o2, o3, o4, o5, rfl⟩ := outs_cons_sl ho
    simp only [putOuts, Act.run] at hrun
    have hAr := hA ⟨i, r, none⟩ (by simp)
    simp only at hAr
    obtain ⟨n1, n2⟩ := ht.non r hAr
    have hOr : μf.O r = μ.O r := hOf ⟨i, r, none⟩ (hw _ (by simp))
    have hgen' : (μf.O r).gen < (O r).gen + (μ1.O i).gen ∨ ((O r).gen + (μ1.O i).gen = (μf.O r).gen ∧ μ1.φ i = μf.φ r ∧ (O r).sz = (μf.O r).sz) := by
      rw [n1]
      by_cases hz : (μ1.O i).gen = 0
      · right; refine ⟨by omega, ?_, rfl⟩
        rw [hφ]; exact hrow ⟨i, r, none⟩ (hw _ (by simp)) rfl hz
      · left; omega
    have htk : Took Y μf μ1 r i (μ1.φ i) { O r with gen := (O r).gen + (μ1.O i).gen, es := some es } :=
      took_whole h1 o1 o3 o5 rfl (by simp only [n1, hOr]; exact o4.symm) hgen'
    have ht' := ht.take (U' := fun j => j < i + 1 ∧ S j) (by simp) (fun j hj => ⟨by omega, hj.2⟩) ⟨by simp, hS ⟨i, r, none⟩ (hw _ (by simp))⟩ htk
    have hm : GMono φ O (upd φ r (μ1.φ i)) (upd O r { O r with gen := (O r).gen + (μ1.O i).gen, es := some es }) := by
      refine GMono.upd ?_
      rw [n2]
      have := hgen'
      rw [← n1] at this
      exact this.imp id fun hh => ⟨hh.1, hh.2.1, hh.2.2⟩
    simp only [List.map_cons, distinct, Bool.and_eq_true, Bool.not_eq_true', List.contains_eq_mem, decide_eq_false_iff_not] at hd
    obtain ⟨A', φ', O', gs, k1, k2, k3, k4, k5, k6⟩ := ih o2 ht' (fun w hw' => hw w (by simp [hw'])) (fun w hw' => by
      have : w.r ≠ r := fun e => hd.1 (List.mem_map.2 ⟨w, hw', e⟩)
      rw [upd_ne _ _ this]; exact hA w (by simp [hw'])) hd.2 hrun
    refine ⟨A', φ', O', _, k1, ?_, hm.trans k3, fun w hw' => ?_, fun r' hr' => k5 r' ?_, fun x hx => ?_⟩
    · have e : i + (V.msl (μ.O r).sz es0 off len :: as).length = i + 1 + as.length := by simp; omega
      rw [e]; exact k2
    · rcases List.mem_cons.1 hw' with rfl | hw'
      · exact k5 r (by simp [upd_same])
      · exact k4 w hw'
    · by_cases e : r' = r
      · subst e; simp [upd_same]
      · rw [upd_ne _ _ e]; exact hr'
    · rcases List.mem_cons.1 hx with rfl | hx
      · refine RefOk.mono ⟨?_, fun _ => ?_⟩ k3
        · simp [upd_same]
        · simp only [upd_same]; exact ⟨trivial, by rw [n1, hOr]; exact o4.symm⟩
      · exact k6 x hx
  | @ptr i r g idx off es0 v rs as vs ws hes hfz hgen hpu hv h ih =>
    intro outs A φ O k p ho ht hw hA hd hrun
    obtain ⟨es, outs', o1, o2, o3, o4, o5, rfl⟩ := outs_cons_ptr ho
    simp only [putOuts, Act.run] at hrun
    have hAr := hA ⟨i, r, none⟩ (by simp)
    simp only at hAr
    obtain ⟨n1, n2⟩ := ht.non r hAr
    have hOr : μf.O r = μ.O r := hOf ⟨i, r, none⟩ (hw _ (by simp))
    have hgen' : (μf.O r).gen < (O r).gen + (μ1.O i).gen ∨ ((O r).gen + (μ1.O i).gen = (μf.O r).gen ∧ μ1.φ i = μf.φ r ∧ (O r).sz = (μf.O r).sz) := by
      rw [n1]
      by_cases hz : (μ1.O i).gen = 0
      · right; refine ⟨by omega, ?_, rfl⟩
        rw [hφ]; exact hrow ⟨i, r, none⟩ (hw _ (by simp)) rfl hz
      · left; omega
    have htk : Took Y μf μ1 r i (μ1.φ i) { O r with gen := (O r).gen + (μ1.O i).gen, es := some es } :=
      took_whole h1 o1 o3 o5 rfl (by simp only [n1, hOr]; exact o4.symm) hgen'
    have ht' := ht.take (U' := fun j => j < i + 1 ∧ S j) (by simp) (fun j hj => ⟨by omega, hj.2⟩) ⟨by simp, hS ⟨i, r, none⟩ (hw _ (by simp))⟩ htk
    have hm : GMono φ O (upd φ r (μ1.φ i)) (upd O r { O r with gen := (O r).gen + (μ1.O i).gen, es := some es }) := by
      refine GMono.upd ?_
      rw [n2]
      have := hgen'
      rw [← n1] at this
      exact this.imp id fun hh => ⟨hh.1, hh.2.1, hh.2.2⟩
    simp only [List.map_cons, distinct, Bool.and_eq_true, Bool.not_eq_true', List.contains_eq_mem, decide_eq_false_iff_not] at hd
    obtain ⟨A', φ', O', gs, k1, k2, k3, k4, k5, k6⟩ := ih o2 ht' (fun w hw' => hw w (by simp [hw'])) (fun w hw' => by
      have : w.r ≠ r := fun e => hd.1 (List.mem_map.2 ⟨w, hw', e⟩)
      rw [upd_ne _ _ this]; exact hA w (by simp [hw'])) hd.2 hrun
    refine ⟨A', φ', O', _, k1, ?_, hm.trans k3, fun w hw' => ?_, fun r' hr' => k5 r' ?_, fun x hx => ?_⟩
    · have e : i + (V.mptr (μ.O r).sz es0 idx off :: as).length = i + 1 + as.length := by simp; omega
      rw [e]; exact k2
    · rcases List.mem_cons.1 hw' with rfl | hw'
      · exact k5 r (by simp [upd_same])
      · exact k4 w hw'
    · by_cases e : r' = r
      · subst e; simp [upd_same]
      · rw [upd_ne _ _ e]; exact hr'
    · rcases List.mem_cons.1 hx with rfl | hx
      · refine RefOk.mono ⟨?_, fun _ => ?_⟩ k3
        · simp [upd_same]
        · simp only [upd_same]; exact ⟨trivial, by rw [n1, hOr]; exact o4.symm⟩
      · exact k6 x hx
  | @fresh i sz v rs as vs ws hsz hv h ih =>
    intro outs A φ O k p ho ht hw hA hd hrun
    obtain ⟨es, outs', o1, o2, o3, o4, o5, rfl⟩ := outs_cons_sl ho
    simp only [putOuts, Act.run] at hrun
    have hAr := hA ⟨i, r0 + i, some sz⟩ (by simp)
    simp only at hAr
    obtain ⟨n1, n2⟩ := ht.non (r0 + i) hAr
    have htk : Took Y μf μ1 (r0 + i) i (μ1.φ i) { gen := (O (r0 + i)).gen + 1, sz, arr := true, fz := false, es := some es } :=
      took_whole h1 o1 o3 o5 rfl o4.symm (.inl (by simp only [n1]; omega))
    have ht' := ht.take (U' := fun j => j < i + 1 ∧ S j) (by simp) (fun j hj => ⟨by omega, hj.2⟩) ⟨by simp, hS ⟨i, r0 + i, some sz⟩ (hw _ (by simp))⟩ htk
    have hm : GMono φ O (upd φ (r0 + i) (μ1.φ i)) (upd O (r0 + i) { gen := (O (r0 + i)).gen + 1, sz, arr := true, fz := false, es := some es }) :=
      GMono.upd (.inl (by simp))
    simp only [List.map_cons, distinct, Bool.and_eq_true, Bool.not_eq_true', List.contains_eq_mem, decide_eq_false_iff_not] at hd
    obtain ⟨A', φ', O', gs, k1, k2, k3, k4, k5, k6⟩ := ih o2 ht' (fun w hw' => hw w (by simp [hw'])) (fun w hw' => by
      have : w.r ≠ r0 + i := fun e => hd.1 (List.mem_map.2 ⟨w, hw', e⟩)
      rw [upd_ne _ _ this]; exact hA w (by simp [hw'])) hd.2 hrun
    refine ⟨A', φ', O', _, k1, ?_, hm.trans k3, fun w hw' => ?_, fun r' hr' => k5 r' ?_, fun x hx => ?_⟩
    · have e : i + (V.msl sz [] 0 0 :: as).length = i + 1 + as.length := by simp; omega
      rw [e]; exact k2
    · rcases List.mem_cons.1 hw' with rfl | hw'
      · exact k5 (r0 + i) (by simp [upd_same])
      · exact k4 w hw'
    · by_cases e : r' = r0 + i
      · subst e; simp [upd_same]
      · rw [upd_ne _ _ e]; exact hr'
    · rcases List.mem_cons.1 hx with rfl | hx
      · refine RefOk.mono ⟨?_, fun _ => ?_⟩ k3
        · simp [upd_same]
        · simp only [upd_same]; exact ⟨trivial, o4.symm⟩
      · exact k6 x hx

theorem outs_mem {O : Nat → Obj} {i : Nat} {as : List V} {vs : List Value} {rs : List Nat} {ws : List WRef} (hp : Prep X μ r0 i as vs rs ws) : ∀ {outs : List (Nat × List V)}, outsOf O i as = some outs →
    ∀ w ∈ ws, ∃ g es, (O w.i).es = some es ∧ (g, es) ∈ outs := by
  induction hp with
  | nil i => intro outs _ w hw; simp at hw
  | plain hpu hs h ih => intro outs ho; rw [outs_cons_pure hpu] at ho; exact ih ho
  | @sl i r g off len es0 v rs as vs ws hes hfz hgen hpu hfit hv h ih =>
    intro outs ho w hw
    obtain ⟨es, outs', o1, o2, o3, o4, o5, rfl⟩ := outs_cons_sl ho
    rcases List.mem_cons.1 hw with rfl | hw
    · exact ⟨_, es, o1, List.mem_cons_self⟩
    · obtain ⟨g, es', k1, k2⟩ := ih o2 w hw; exact ⟨g, es', k1, by simp [k2]⟩
  | @ptr i r g idx off es0 v rs as vs ws hes hfz hgen hpu hv h ih =>
    intro outs ho w hw
    obtain ⟨es, outs', o1, o2, o3, o4, o5, rfl⟩ := outs_cons_ptr ho
    rcases List.mem_cons.1 hw with rfl | hw
    · exact ⟨_, es, o1, List.mem_cons_self⟩
    · obtain ⟨g, es', k1, k2⟩ := ih o2 w hw; exact ⟨g, es', k1, by simp [k2]⟩
  | @fresh i sz v rs as vs ws hsz hv h ih =>
    intro outs ho w hw
    obtain ⟨es, outs', o1, o2, o3, o4, o5, rfl⟩ := outs_cons_sl ho
    rcases List.mem_cons.1 hw with rfl | hw
    · exact ⟨_, es, o1, List.mem_cons_self⟩
    · obtain ⟨g, es', k1, k2⟩ := ih o2 w hw; exact ⟨g, es', k1, by simp [k2]⟩

end
end Go.AM
