/-
  Calls: the call as a whole. Own work.
-/
import Derived.Test.YtnjbmkcbhnkggaaAmCall7
set_option linter.unusedSimpArgs false
namespace Go.AM
open Go Go.RowKit

section
variable {X : Ctx} {μ μ1 : Mu} {r0 : Nat} {C : Oracle} {T : Nat → V}

theorem call_back {as : List V} {vals : List Value} {rs : List Nat} {ws : List WRef} (ho : Objs X μ) (hp : Prep X μ r0 0 as vals rs ws) (hap : apart rs (ws.map (·.r)) = true) (hd : distinct (ws.map (·.r)) = true)
    (le : Le ⟨μ.w, rowIn μ.φ ws, (enter as).O⟩ μ1) (h1 : Objs ⟨X.toTrEnv, banned X μ rs ws⟩ μ1) {res : Res} {refs : List Nat} {v0 : V} {val : Value} {T' : Nat → V} (hv : VRel ⟨X.toTrEnv, banned X μ rs ws⟩ μ1 v0 val)
    (hexp : Exported as.length ⟨T', μ1.O⟩ v0 res.val refs) (hdr : distinct refs = true) (houts : outsOf μ1.O 0 as = some res.outs) {thaw : Bool} {r : Nat} {v : V} {σ' : St}
    (hrun : (if res.val.isScalar && res.outs.all (fun o => V.areScalar o.2) then putOuts ws res.outs fun gs => importRes thaw r gs res.val .done else freezeAll rs (putOuts ws res.outs fun gs => importRes thaw r gs res.val .done)).run C ⟨T, μ.O⟩ = some (v, σ')) :
    σ'.T = T ∧ ∃ φ', VRel X ⟨μ1.w, φ', σ'.O⟩ v val ∧ Le μ ⟨μ1.w, φ', σ'.O⟩ ∧ Objs X ⟨μ1.w, φ', σ'.O⟩ := by
  have hR := hexp.expR h1 hv
  have hi := hp.inc
  -- where the callee never gave up what it was handed
  have hrow : ∀ w ∈ ws, w.fresh = none → (μ1.O w.i).gen = 0 → μ1.φ w.i = μ.φ w.r := fun w hw hfr hg => by
    have hg0 : ((enter as).O w.i).gen = 0 := by
      rcases entry_obj hp w.i with h | ⟨_, _, _, _, _, _, h, _⟩ | ⟨_, _, _, h, _⟩
      · rw [h]; rfl
      · exact h
      · exact h
    obtain ⟨e1, _⟩ := le.row w.i (by rw [hg]; exact hg0.symm)
    rw [e1]
    have := rowIn_mem (φ := μ.φ) hi w hw
    rw [hfr] at this
    exact this
  have start : ∀ (Of : Nat → Obj) (S : Nat → Prop), Taken ⟨X.toTrEnv, banned X μ rs ws⟩ ⟨μ.w, μ.φ, Of⟩ μ1 (fun j => j < 0 ∧ S j) (fun _ => none) μ.φ Of := fun Of S =>
    ⟨fun _ _ => ⟨rfl, rfl⟩, fun _ _ e => by simp at e, fun _ _ _ e => by simp at e⟩
  split at hrun
  · rename_i hsc
    simp only [Bool.and_eq_true] at hsc
    obtain ⟨hs1, hs2⟩ := hsc
    have hS : ∀ w ∈ ws, ∀ es, (μ1.O w.i).es = some es → V.areScalar es = true := fun w hw es he => by
      obtain ⟨g, es', k1, k2⟩ := outs_mem hp houts w hw
      rw [he] at k1; injection k1 with k1; subst k1
      exact (List.all_eq_true.1 hs2) _ k2
    obtain ⟨A, φ, O, gs, k1, k2, k3, k4, k5, k6⟩ := putOuts_sound (μf := ⟨μ.w, μ.φ, μ.O⟩) h1 hrow rfl (fun _ _ => rfl) (S := fun j => ∀ es, (μ1.O j).es = some es → V.areScalar es = true) hS hp houts (start μ.O _) (fun w hw => hw) (fun _ _ => rfl) hd hrun
    have hpu := isPure_of_isScalar hs1
    unfold importRes at k1
    rw [if_pos hpu] at k1
    obtain ⟨rfl, rfl⟩ := run_done k1
    obtain ⟨b1, b2⟩ := back_view ho hp le h1 (Of := μ.O) ho (fun _ _ => rfl) k2 k3 k4 (fun j hj => .inl hj.2)
    exact ⟨rfl, φ, scalar_transfer (X := ⟨X.toTrEnv, banned X μ rs ws⟩) (μ := μ1) (X' := X) (μ' := ⟨μ1.w, φ, O⟩) rfl hs1 (hR.pure hpu), b1, b2⟩
  · obtain ⟨Of, f1, f2, f3, f4, f5⟩ := freezeAll_sound (X := X) (w := μ.w) (φ := μ.φ) rs ho hrun
    have hOf : ∀ w ∈ ws, Of w.r = μ.O w.r := fun w hw => f4 _ fun hr => by
      have := List.all_eq_true.1 hap w.r (List.mem_map.2 ⟨w, hw, rfl⟩)
      simp [hr] at this
    obtain ⟨A, φ, O, gs, k1, k2, k3, k4, k5, k6⟩ := putOuts_sound (μf := ⟨μ.w, μ.φ, Of⟩) h1 hrow rfl hOf (S := fun _ => True) (fun _ _ => trivial) hp houts (start Of _) (fun w hw => hw) (fun _ _ => rfl) hd f1
    obtain ⟨hT, hres⟩ := importRes_sound h1 k2 k6 hR (fun j _ hn hu => by have := hu.1; omega) hdr k1
    -- who may write what, at the end
    have ownT : ∀ {U : Nat → Prop} {A : Nat → Option Nat} {φ : Nat → Row} {O : Nat → Obj}, Taken ⟨X.toTrEnv, banned X μ rs ws⟩ ⟨μ.w, μ.φ, Of⟩ μ1 U A φ O → (∀ w ∈ ws, A w.r ≠ none) → (∀ j, U j → thaw = true ∨ j < as.length) →
        ∀ b, Own X ⟨μ1.w, φ, O⟩ b → after ⟨X.toTrEnv, banned X μ rs ws⟩ μ1 as.length thaw b := by
      intro U A φ O ht hA hU b hb
      rcases hb with ⟨r', q1, q2, q3, q4⟩ | hb
      · simp only at q1 q2 q3 q4
        cases e : A r' with
        | none =>
          obtain ⟨n1, n2⟩ := ht.non r' e
          simp only at n1 n2
          rw [n1] at q1 q2; rw [n2] at q3 q4
          have hr1 : r' ∉ rs := fun h => by rw [f5 r' h] at q2; simp at q2
          have hr2 : r' ∉ ws.map (·.r) := fun h => by
            obtain ⟨w, hw, e'⟩ := List.mem_map.1 h
            exact hA w hw (by rw [e']; exact e)
          rw [f4 r' hr1] at q1 q2
          exact .inl (.inr ⟨r', hr1, hr2, q1, q2, q3, q4⟩)
        | some j =>
          obtain ⟨t, hu⟩ := ht.som r' j e
          obtain ⟨b1, b2⟩ := t.blk q3
          exact .inr ⟨j, hU j hu, t.live.1, t.live.2, b1, by rw [← b2]; exact q4⟩
      · exact .inl (.inl hb)
    refine ⟨hT, ?_⟩
    rcases hres with ⟨hpu, rfl, hO, hvv⟩ | ⟨A', φ', m1, m2, m3, m4⟩
    · have hown := ownT k2 k4 (fun j hj => .inr (by have := hj.1; omega))
      have hown' : ∀ b, Own X ⟨μ1.w, φ, O⟩ b → Own ⟨X.toTrEnv, banned X μ rs ws⟩ μ1 b := fun b hb => after_sub (φ := φ) (O := O) (.inr (hown b hb))
      obtain ⟨b1, b2⟩ := back_view ho hp le h1 (Of := Of) f3 hOf k2 k3 k4 (fun j hj => .inr hown')
      rw [hO]
      exact ⟨φ, pure_transfer (X := ⟨X.toTrEnv, banned X μ rs ws⟩) (μ := μ1) (B := X.ban) (μ' := ⟨μ1.w, φ, O⟩) rfl hown' hpu hvv, f2.trans b1, b2⟩
    · have hA' : ∀ w ∈ ws, A' w.r ≠ none := fun w hw => m3 _ (k4 w hw)
      have hown := ownT m1 hA' (fun j hj => hj.elim (fun h => .inr (by have := h.1; omega)) fun h => .inl h.1)
      have hown' : ∀ b, Own X ⟨μ1.w, φ', σ'.O⟩ b → Own ⟨X.toTrEnv, banned X μ rs ws⟩ μ1 b := fun b hb => after_sub (φ := φ') (O := σ'.O) (.inr (hown b hb))
      obtain ⟨b1, b2⟩ := back_view ho hp le h1 (Of := Of) f3 hOf m1 (k3.trans m2) hA' (fun j hj => .inr hown')
      refine ⟨φ', weaken (X := ⟨X.toTrEnv, after ⟨X.toTrEnv, banned X μ rs ws⟩ μ1 as.length thaw⟩) (μ := quiet μ1 φ' σ'.O) (X' := X) (μ' := ⟨μ1.w, φ', σ'.O⟩) rfl rfl rfl (fun _ => ⟨rfl, rfl⟩) (fun b hb => .inr (hown b hb)) m4, f2.trans b1, b2⟩

end
end Go.AM
