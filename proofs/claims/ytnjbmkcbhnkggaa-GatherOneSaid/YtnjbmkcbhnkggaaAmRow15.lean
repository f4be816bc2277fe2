/-
  hachurelaw15.GatherOne: whatever the places: it returns true; the places read as before. Conditions: none. Own work.
-/
import Derived.Test.YtnjbmkcbhnkggaaAmTr15
import Derived.Test.YtnjbmkcbhnkggaaAmGatherD
import Derived.WalkKit
import Derived.ProofKit
import Derived.OpenShut
import Derived.JoinedCond
import Derived.Carry
set_option linter.unusedSimpArgs false
set_option linter.unusedVariables false
namespace Go.AM
open Go.ChangeShapes Go.WideShapes Go.ChangeAt Go.RowKit Go.Proofs Go.Proofs.Ytnjbmkcbhnkggaa

theorem below_kept {W W' : World} (h : Below W.heap.size W W') (may : MemPlace → Prop) : W.keptBut W' may := by
  have := (World.keptBut_refl W may).2.2
  refine ⟨h.os, h.output, fun i hi => ?_⟩
  rw [h.block i hi]
  exact this i hi

theorem own15 : ownKnob Try.prog.godebug = none := by kernel_rfl
def S15 : List TypeId := [22, 33, 3, 31, 9, 5]
theorem plain15 : S15.all (plainT X0.P S15) = true := by kernel_rfl
theorem laid15 : laidOutB Try.prog = true := by kernel_rfl

theorem place_of {n : Nat} {ws : List V} (h : TV X0.P n 33 ws) : ∃ p : Place, mkEl X0.P 33 ws = p.v := by
  have u33 : X0.P.underlying 33 = _ := Try.underlying33
  have u31 : X0.P.underlying 31 = _ := Try.underlying31
  have u3 : X0.P.underlying 3 = _ := Try.underlying3
  have u9 : X0.P.underlying 9 = _ := Try.underlying9
  cases n with
  | zero => simp [TV] at h
  | succ n =>
  cases n with
  | zero => simp [TV, u33, TVF] at h
  | succ n =>
  cases n with
  | zero => simp [TV, u33, TVF, u31] at h
  | succ n =>
    simp [TV, u33, TVF, u31, u3, u9] at h
    obtain ⟨_, _, rfl, _, ⟨i, rfl, _⟩, _, _, rfl, _, ⟨_, _, rfl, _, ⟨x, rfl, _⟩, _, _, rfl, _, ⟨y, rfl, _⟩, rfl⟩, _, _, rfl, _, ⟨c, rfl, _⟩, _, _, rfl, _, ⟨m, rfl, _⟩, _, _, rfl, _, ⟨g, rfl, _⟩, _, _, rfl, _, ⟨d, rfl, _⟩, rfl⟩ := h
    exact ⟨⟨i, x, y, c, m, g, d⟩, by simp [mkEl, u33, Place.v]⟩

theorem places_of {n : Nat} {vs : List V} (h : TV X0.P n 22 vs) : ∃ (l : List Place) (sv : V), vs = [sv] ∧ IsSl 7 (l.map Place.v) sv := by
  have u22 : X0.P.underlying 22 = _ := Try.underlying22
  have c33 : X0.P.cellsOf 33 = 7 := by kernel_rfl
  cases n with
  | zero => simp [TV] at h
  | succ n =>
    simp only [TV, u22] at h
    rcases h with rfl | ⟨xs, rfl, hml, hx⟩
    · exact ⟨[], .nils, rfl, .inr ⟨rfl, rfl⟩⟩
    · rw [c33]
      have : ∃ l : List Place, xs = l.map Place.v := by
        clear u22 hml
        induction xs with
        | nil => exact ⟨[], rfl⟩
        | cons x xs ih =>
          obtain ⟨l, hl⟩ := ih (fun y hy => hx y (by simp [hy]))
          obtain ⟨ws, h1, h2⟩ := hx x (by simp)
          obtain ⟨p, hp⟩ := place_of h1
          exact ⟨p :: l, by simp [hl, h2, hp]⟩
      obtain ⟨l, rfl⟩ := this
      exact ⟨l, _, rfl, .inl rfl⟩

set_option maxRecDepth 100000 in
theorem one_contract (H : Type) (enc : TypeId × Value → H) (W : World) (base : Nat) (args : Array Value) (ds gs : List (DataW H)) (before : List MemPlace)
    (hval : ∀ (j : Nat) t v, Try.f3.params[j]? = some t → args[j]? = some v → Value.okWide Try.prog W .any base t v)
    (hW : DataW.Whole enc Try.prog Try.f3.params.toList Rows.gatherOneSpec.vars false W args.toList ds gs before) :
    Calls Try.prog 3 args W fun e W' => ∃ v, e = .returned v ∧ Rows.gatherOneSpec.post enc Try.prog Try.f3 false true false false W args v W' := by
  have hW' := hW
  obtain ⟨p, q, hA0, hV, rfl, hfz, hnd⟩ := hW
  have hA : DataW.TrodAll enc Try.prog W 0 (fun _ => true) true Try.f3.params.toList args.toList ds p := hA0
  rw [Try.params3] at hA hval
  obtain ⟨v0, vs0, d0, ds0, p0, q0, hargs, rfl, rfl, h0, r0⟩ := trodAll_cons hA
  obtain ⟨rfl, rfl, rfl⟩ := trodAll_nil r0
  obtain rfl : args = #[v0] := by cases args; simp_all
  obtain ⟨rfl, rfl⟩ := trodVars_none hV
  clear hA0
  simp only [List.append_nil] at hW'
  obtain ⟨a, len, cap, rfl⟩ := okWide_slice Try.underlying22 (hval 0 22 v0 rfl rfl)
  have h0k := h0
  obtain ⟨fuel, hf⟩ := h0
  obtain ⟨vs, g1, g2, g3, g4⟩ := trod_good (X := X0) plain15 fuel 22 _ _ (by decide) hf
  obtain ⟨l, sv, rfl, hs⟩ := places_of g1
  have hlt : ∀ x ∈ p0, x.block < W.heap.size := fun x hx => by simpa using hW'.lt x hx
  refine (law_calls (F := 3) envOk rfl Try.func3 (by kernel_rfl) rfl (gatherOne_ev hs) (by simpa using g3) (vals := [.slice a len cap]) (fun φ => g4 φ)).mono fun e W' ⟨he, hb, hz⟩ => ?_
  subst he
  refine ⟨_, rfl, post_of_same (pa := p0 ++ []) (pv := []) hW' (fun _ _ _ => (trodAll_cons_mk (shut_bool Try.underlying4 _) trodAll_mk0))
    (fun sp hsp => (trodAll_cons_mk (WideElems.Trod_stays laid15 (by kernel_rfl) (of_decide_eq_true (by kernel_rfl)) h0k (fun x hx => hb.same (hlt x hx)) (fun x hx => hsp x (by simpa using hx))) trodAll_mk0)) (fun _ _ => rfl) (by simp)
    (below_kept hb _) hz (ok_one (by kernel_rfl) rfl (okWide_bool_mk Try.underlying4 _))⟩

set_option maxRecDepth 100000 in
theorem one_lifted (os : Os) (started : os.Started) (H : Type) (enc : TypeId × Value → H) :
    ReturnsInHanded {} Try.checked os 3 .any (Rows.gatherOneSpec.pre6 enc Try.prog Try.f3 Rows.gatherOneRow.domain false) (Rows.gatherOneSpec.post enc Try.prog Try.f3 false true false false) := by
  refine returnsInHanded_of_change (C := Try.checked) own15 started (by kernel_rfl) Try.func3
    (ChangeSpec.witness6 (enc := enc) (C := Try.checked) false ⟨#[], #[.slice none 0 0], []⟩ 8 (by kernel_rfl) (by kernel_rfl) (by kernel_rfl) (by kernel_rfl)) ?_
  intro W base args ds gs before hval hW _ _
  exact one_contract H enc W base args ds gs before hval hW

theorem one_over : Rows.gatherOneRow.holds Try.pinned (OpenSpec.ofChange Rows.gatherOneSpec) :=
  OpenClaim.holds_of_wide 3 Try.f3 rfl rfl rfl rfl rfl rfl rfl ⟨rfl, rfl, rfl, rfl, rfl⟩ rfl rfl rfl rfl rfl (by kernel_rfl) Try.func3 (by kernel_rfl)
    (of_decide_eq_true (by kernel_rfl)) (by unfold Func.isWrapper; first | (rw [if_pos (by decide +kernel)]; kernel_rfl) | (rw [if_neg (by decide +kernel)]; exact ⟨rfl, rfl⟩))
    (fun os started H enc _ => one_lifted os started H enc)
end Go.AM

namespace Go.Proofs.Ytnjbmkcbhnkggaa
theorem gatherOne_holds : Rows.GatherOneSaid := Go.AM.one_over
#print axioms gatherOne_holds
end Go.Proofs.Ytnjbmkcbhnkggaa
