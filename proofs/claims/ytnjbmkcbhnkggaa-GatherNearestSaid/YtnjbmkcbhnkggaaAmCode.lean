/-
  Code of the abstract machine against the model's. Own work.
-/
import Derived.Test.YtnjbmkcbhnkggaaAmDraw
set_option linter.unusedSimpArgs false
namespace Go.AM
open Go Go.RowKit

def AExit.conv : AExit → Go.Exit
  | .normal => .normal
  | .exit id => .exit id
  | .ret => .ret

def Ends (X : Ctx) (μ0 : Mu) (n : Nat) (e : AExit) (σ : St) : Go.Exit → Go.Act → World → Prop := fun ex a w => ex = e.conv ∧ Sim X μ0 n σ a w

section
variable {X : Ctx} {E : Env} {μ0 : Mu} {n : Nat}

theorem opd_bool {σ : St} {a : Go.Act} {w : World} (hs : Sim X μ0 n σ a w) {c : Operand} {c' : AOpd} (hc : trO X c = some c') {b : Bool} (hb : evalOpd σ c' = .bool b) : a.eval c = .bool b := by
  obtain ⟨_, _, φ, hr, _⟩ := hs
  have := trO_rel hr hc σ.O
  have e : evalOpd ⟨σ.T, σ.O⟩ c' = evalOpd σ c' := rfl
  rw [e, hb] at this
  simpa [VRel] using this

theorem code_sound (hm : X.P.follows .mixedOrders = true) {h : Hints} (hn : h.n = n) : ∀ (fuel : Nat), (∀ m, m < fuel → OpHyp X E (callWith E (exec E m))) → ∀ (c : Code) (ac : ACode) (σ σ' : St) (e : AExit) (a : Go.Act) (w : World),
    trCode X h c = some ac → exec E fuel ac σ = some (e, σ') → Sim X μ0 n σ a w → c.wp X.P (Ends X μ0 n e σ') a w := by
  intro fuel
  induction fuel using Nat.strongRecOn with
  | _ fuel0 ih0 =>
    intro hH c
    rcases Nat.eq_zero_or_pos fuel0 with h0 | hpos
    · subst h0; intro ac σ σ' e a w _ hrun; simp [exec] at hrun
    obtain ⟨fuel, rfl⟩ : ∃ f, fuel0 = f + 1 := ⟨fuel0 - 1, by omega⟩
    have hH' : ∀ m, m < fuel → OpHyp X E (callWith E (exec E m)) := fun m hm' => hH m (by omega)
    have ih := ih0 fuel (by omega)
    have H := hH fuel (by omega)
    cases c with
    | skip =>
      intro ac σ σ' e a w htr hrun hs
      simp [trCode] at htr; subst htr
      simp [exec, execWith] at hrun
      obtain ⟨rfl, rfl⟩ := hrun
      exact wp_skip ⟨rfl, hs⟩
    | region id ops d =>
      intro ac σ σ' e a w htr hrun hs
      cases d with
      | false =>
        simp only [trCode, Option.map_eq_some_iff] at htr
        obtain ⟨as, h1, rfl⟩ := htr
        simp only [exec, execWith, Option.map_eq_some_iff, Prod.mk.injEq] at hrun
        obtain ⟨σ1, h2, rfl, rfl⟩ := hrun
        refine wp_region ?_
        rw [List.range_eq_range']
        exact region_sound H hn h1 ops.size 0 (by omega) hs (by simpa using h2) fun a' w' hs' => ⟨rfl, hs'⟩
      | true =>
        simp only [trCode, Option.map_eq_some_iff] at htr
        obtain ⟨as, h1, rfl⟩ := htr
        simp only [exec, execWith, Option.map_eq_some_iff, Prod.mk.injEq] at hrun
        obtain ⟨σ1, h2, rfl, rfl⟩ := hrun
        exact drawn_sound H hm hn h1 hs h2 fun a' w' hs' => ⟨rfl, hs'⟩
    | seq x y =>
      intro ac σ σ' e a w htr hrun hs
      simp only [trCode] at htr
      split at htr
      · rename_i ax ay h1 h2
        injection htr with htr; subst htr
        simp only [exec, execWith] at hrun
        refine wp_seq ?_
        split at hrun
        · rename_i σ1 hx
          refine wp_mono (ih hH' x ax σ σ1 .normal a w h1 hx hs) fun ex a' w' hq => ?_
          obtain ⟨rfl, hs'⟩ := hq
          exact ih hH' y ay σ1 σ' e a' w' h2 hrun hs'
        · rename_i r hne
          refine wp_mono (ih hH' x ax σ σ' e a w h1 hrun hs) fun ex a' w' hq => ?_
          obtain ⟨rfl, hs'⟩ := hq
          cases e with
          | normal => exact absurd hrun (hne σ')
          | exit id => exact ⟨rfl, hs'⟩
          | ret => exact ⟨rfl, hs'⟩
      · simp at htr
    | cond c x y =>
      intro ac σ σ' e a w htr hrun hs
      simp only [trCode] at htr
      split at htr
      · rename_i c' ax ay h0 h1 h2
        injection htr with htr; subst htr
        simp only [exec, execWith] at hrun
        split at hrun
        · rename_i hb
          exact wp_cond_true (opd_bool hs h0 hb) (ih hH' x ax σ σ' e a w h1 hrun hs)
        · rename_i hb
          exact wp_cond_false (opd_bool hs h0 hb) (ih hH' y ay σ σ' e a w h2 hrun hs)
        · simp at hrun
      · simp at htr
    | block id b =>
      intro ac σ σ' e a w htr hrun hs
      simp only [trCode, Option.map_eq_some_iff] at htr
      obtain ⟨ab, h1, rfl⟩ := htr
      simp only [exec, execWith] at hrun
      refine wp_block ?_
      split at hrun
      · rename_i id' σ1 hb
        refine wp_mono (ih hH' b ab σ σ1 (.exit id') a w h1 hb hs) fun ex a' w' hq => ?_
        obtain ⟨rfl, hs'⟩ := hq
        simp only [AExit.conv, Go.Exit.inBlock]
        split at hrun
        · rename_i heq
          simp only [Option.some.injEq, Prod.mk.injEq] at hrun
          obtain ⟨rfl, rfl⟩ := hrun
          rw [if_pos heq]
          exact ⟨rfl, hs'⟩
        · rename_i hne
          simp only [Option.some.injEq, Prod.mk.injEq] at hrun
          obtain ⟨rfl, rfl⟩ := hrun
          rw [if_neg hne]
          exact ⟨rfl, hs'⟩
      · rename_i r hne
        refine wp_mono (ih hH' b ab σ σ' e a w h1 hrun hs) fun ex a' w' hq => ?_
        obtain ⟨rfl, hs'⟩ := hq
        cases e with
        | normal => exact ⟨rfl, hs'⟩
        | exit id' => exact absurd hrun (hne id' σ')
        | ret => exact ⟨rfl, hs'⟩
    | loop b =>
      intro ac σ σ' e a w htr hrun hs
      simp only [trCode, Option.map_eq_some_iff] at htr
      obtain ⟨ab, h1, rfl⟩ := htr
      have rounds : ∀ (k : Nat), k ≤ fuel + 1 → ∀ (σ : St), exec E k (.loop ab) σ = some (e, σ') → ∃ m, ∀ a w, Sim X μ0 n σ a w → Code.rounds X.P b (Ends X μ0 n e σ') m a w := by
        intro k
        induction k with
        | zero => intro _ σ hr; simp [exec] at hr
        | succ k ihk =>
          intro hk σ hr
          simp only [exec, execWith] at hr
          have body : ∀ (σ1 : St) (e1 : AExit), exec E k ab σ = some (e1, σ1) → ∀ a w, Sim X μ0 n σ a w → b.wp X.P (Ends X μ0 n e1 σ1) a w := fun σ1 e1 hx a w hs =>
            ih0 k (by omega) (fun m hm' => hH m (by omega)) b ab σ σ1 e1 a w h1 hx hs
          split at hr
          · rename_i σ1 hx
            obtain ⟨m, hm2⟩ := ihk (by omega) σ1 hr
            refine ⟨m + 1, fun a w hs => ?_⟩
            rw [rounds_succ]
            refine wp_mono (body σ1 .normal hx a w hs) fun ex a' w' hq => ?_
            obtain ⟨rfl, hs'⟩ := hq
            exact hm2 a' w' hs'
          · rename_i r hne
            refine ⟨1, fun a w hs => ?_⟩
            rw [rounds_succ]
            refine wp_mono (body σ' e hr a w hs) fun ex a' w' hq => ?_
            obtain ⟨rfl, hs'⟩ := hq
            cases e with
            | normal => exact absurd hr (hne σ')
            | exit id' => exact ⟨rfl, hs'⟩
            | ret => exact ⟨rfl, hs'⟩
      obtain ⟨m, hm'⟩ := rounds (fuel + 1) (Nat.le_refl _) σ hrun
      exact wp_loop_rounds m (hm' a w hs)
    | exit id =>
      intro ac σ σ' e a w htr hrun hs
      simp [trCode] at htr; subst htr
      simp [exec, execWith] at hrun
      obtain ⟨rfl, rfl⟩ := hrun
      exact wp_exit ⟨rfl, hs⟩
    | ret =>
      intro ac σ σ' e a w htr hrun hs
      simp [trCode] at htr; subst htr
      simp [exec, execWith] at hrun
      obtain ⟨rfl, rfl⟩ := hrun
      exact wp_ret ⟨rfl, hs⟩
    | label l =>
      intro ac σ σ' e a w htr hrun hs
      simp [trCode] at htr; subst htr
      simp [exec, execWith] at hrun
      obtain ⟨rfl, rfl⟩ := hrun
      exact wp_label ⟨rfl, hs⟩
    | scope b =>
      intro ac σ σ' e a w htr hrun hs
      simp only [trCode, Option.map_eq_some_iff] at htr
      obtain ⟨ab, h1, rfl⟩ := htr
      simp only [exec, execWith] at hrun
      refine wp_scope_straight ?_
      refine wp_mono (ih hH' b ab σ σ' e a w h1 hrun hs) fun ex a' w' hq => ?_
      obtain ⟨rfl, hs'⟩ := hq
      cases e <;> exact ⟨rfl, hs'⟩
    | rangeFunc f ps x y =>
      intro ac σ σ' e a w htr hrun hs
      simp [trCode] at htr; subst htr
      simp [exec, execWith] at hrun
    | goto l =>
      intro ac σ σ' e a w htr hrun hs
      simp [trCode] at htr; subst htr
      simp [exec, execWith] at hrun
    | refuse y =>
      intro ac σ σ' e a w htr hrun hs
      simp [trCode] at htr; subst htr
      simp [exec, execWith] at hrun

end
end Go.AM
