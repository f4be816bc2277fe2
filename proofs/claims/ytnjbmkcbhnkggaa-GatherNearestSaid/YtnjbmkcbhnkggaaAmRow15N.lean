/-
  hachurelaw15.GatherNearest: whatever the places and the turn: it returns true; the places read as before. Conditions: none. Own work.
-/
import Derived.Test.YtnjbmkcbhnkggaaAmTr15
import Derived.Test.YtnjbmkcbhnkggaaAmNear
import Derived.WalkKit
import Derived.ProofKit
import Derived.OpenShut
import Derived.JoinedCond
import Derived.Carry
set_option linter.unusedSimpArgs false
set_option linter.unusedVariables false
namespace Go.AM
open Go.ChangeShapes Go.WideShapes Go.ChangeAt Go.RowKit Go.Proofs Go.Proofs.Ytnjbmkcbhnkggaa

theorem below_kept {W W' : World} (h : Below W.heap.size W W') (may : MemPlace → Prop) : W.keptBut W' may := by
  have := (World.keptBut_refl W may).2.2
  refine ⟨h.os, h.output, fun i hi => ?_⟩
  rw [h.block i hi]
  exact this i hi

theorem own15 : ownKnob Try.prog.godebug = none := by kernel_rfl
def S15 : List TypeId := [22, 33, 3, 31, 9, 5]
theorem plain15 : S15.all (plainT X0.P S15) = true := by kernel_rfl
theorem laid15 : laidOutB Try.prog = true := by kernel_rfl

theorem place_of {n : Nat} {ws : List V} (h : TV X0.P n 33 ws) : ∃ p : Place, mkEl X0.P 33 ws = p.v := by
  have u33 : X0.P.underlying 33 = _ := Try.underlying33
  have u31 : X0.P.underlying 31 = _ := Try.underlying31
  have u3 : X0.P.underlying 3 = _ := Try.underlying3
  have u9 : X0.P.underlying 9 = _ := Try.underlying9
  cases n with
  | zero => simp [TV] at h
  | succ n =>
  cases n with
  | zero => simp [TV, u33, TVF] at h
  | succ n =>
  cases n with
  | zero => simp [TV, u33, TVF, u31] at h
  | succ n =>
    simp [TV, u33, TVF, u31, u3, u9] at h
    obtain ⟨_, _, rfl, _, ⟨i, rfl, _⟩, _, _, rfl, _, ⟨_, _, rfl, _, ⟨x, rfl, _⟩, _, _, rfl, _, ⟨y, rfl, _⟩, rfl⟩, _, _, rfl, _, ⟨c, rfl, _⟩, _, _, rfl, _, ⟨m, rfl, _⟩, _, _, rfl, _, ⟨g, rfl, _⟩, _, _, rfl, _, ⟨d, rfl, _⟩, rfl⟩ := h
    exact ⟨⟨i, x, y, c, m, g, d⟩, by simp [mkEl, u33, Place.v]⟩

theorem places_of {n : Nat} {vs : List V} (h : TV X0.P n 22 vs) : ∃ (l : List Place) (sv : V), vs = [sv] ∧ IsSl 7 (l.map Place.v) sv := by
  have u22 : X0.P.underlying 22 = _ := Try.underlying22
  have c33 : X0.P.cellsOf 33 = 7 := by kernel_rfl
  cases n with
  | zero => simp [TV] at h
  | succ n =>
    simp only [TV, u22] at h
    rcases h with rfl | ⟨xs, rfl, hml, hx⟩
    · exact ⟨[], .nils, rfl, .inr ⟨rfl, rfl⟩⟩
    · rw [c33]
      have : ∃ l : List Place, xs = l.map Place.v := by
        clear u22 hml
        induction xs with
        | nil => exact ⟨[], rfl⟩
        | cons x xs ih =>
          obtain ⟨l, hl⟩ := ih (fun y hy => hx y (by simp [hy]))
          obtain ⟨ws, h1, h2⟩ := hx x (by simp)
          obtain ⟨p, hp⟩ := place_of h1
          exact ⟨p :: l, by simp [hl, h2, hp]⟩
      obtain ⟨l, rfl⟩ := this
      exact ⟨l, _, rfl, .inl rfl⟩

theorem turn_of {n : Nat} {us : List V} {X : Ctx} {μ : Mu} {t : Int} (hr : VRels X μ us [.int .u8 t]) (h : TV X0.P n 5 us) : us = [.int .u8 t] ∧ 0 ≤ t ∧ t ≤ 255 := by
  have u5 : X0.P.underlying 5 = _ := Try.underlying5
  cases n with
  | zero => simp [TV] at h
  | succ n =>
    simp only [TV, u5] at h
    obtain ⟨x, rfl, hw⟩ := h
    simp only [VRels, VRel] at hr
    obtain ⟨hr, _⟩ := hr
    injection hr with _ hr
    subst hr
    simp only [Lit.wf, Bool.and_eq_true, decide_eq_true_eq, IntKind.min, IntKind.max, IntKind.signed, IntKind.bits] at hw
    exact ⟨rfl, by simpa using hw.1, by have := hw.2; simp at this; omega⟩

set_option maxRecDepth 100000 in
theorem near_contract (H : Type) (enc : TypeId × Value → H) (W : World) (base : Nat) (args : Array Value) (ds gs : List (DataW H)) (before : List MemPlace)
    (hval : ∀ (j : Nat) t v, Try.f4.params[j]? = some t → args[j]? = some v → Value.okWide Try.prog W .any base t v)
    (hW : DataW.Whole enc Try.prog Try.f4.params.toList Rows.gatherNearestSpec.vars false W args.toList ds gs before) :
    Calls Try.prog 4 args W fun e W' => ∃ v, e = .returned v ∧ Rows.gatherNearestSpec.post enc Try.prog Try.f4 false true false false W args v W' := by
  have hW' := hW
  obtain ⟨p, q, hA0, hV, rfl, hfz, hnd⟩ := hW
  have hA : DataW.TrodAll enc Try.prog W 0 (fun _ => true) true Try.f4.params.toList args.toList ds p := hA0
  rw [Try.params4] at hA hval
  obtain ⟨v0, vs0, d0, ds0, p0, q0, hargs, rfl, rfl, h0, r0⟩ := trodAll_cons hA
  obtain ⟨v1, vs1, d1, ds1, p1, q1, rfl, rfl, rfl, h1, r1⟩ := trodAll_cons r0
  obtain ⟨rfl, rfl, rfl⟩ := trodAll_nil r1
  obtain rfl : args = #[v0, v1] := by cases args; simp_all
  obtain ⟨rfl, rfl⟩ := trodVars_none hV
  clear hA0
  have hW2 := hW'
  simp only [List.append_nil] at hW'
  obtain ⟨a, len, cap, rfl⟩ := okWide_slice Try.underlying22 (hval 0 22 v0 rfl rfl)
  have h0k := h0
  obtain ⟨fuel, hf⟩ := h0
  obtain ⟨vs, g1, g2, g3, g4⟩ := trod_good (X := X0) plain15 fuel 22 _ _ (by decide) hf
  obtain ⟨l, sv, rfl, hs⟩ := places_of g1
  obtain ⟨t, rfl⟩ := okWide_int Try.underlying5 (hval 1 5 v1 rfl rfl)
  have h1k := h1
  obtain ⟨fuel1, hf1⟩ := h1
  obtain ⟨us, k1, k2, k3, k4⟩ := trod_good (X := X0) plain15 fuel1 5 _ _ (by decide) hf1
  obtain ⟨rfl, ht0, ht1⟩ := turn_of (k4 fun _ => ⟨0, 0, 0⟩) k1
  have hlt : ∀ x ∈ p0, x.block < W.heap.size := fun x hx => hW'.lt x (by simp [hx])
  have hlt1 : ∀ x ∈ p1, x.block < W.heap.size := fun x hx => hW'.lt x (by simp [hx])
  refine (law_calls (F := 4) envOk rfl Try.func4 (by kernel_rfl) rfl (gatherNearest_ev hs ht0 ht1) (by simpa [V.arePure, V.isPure] using g3) (vals := [.slice a len cap, .int .u8 t]) (fun φ => VRels.append (g4 φ) (k4 φ))).mono fun e W' ⟨he, hb, hz⟩ => ?_
  subst he
  refine ⟨_, rfl, post_of_same (pa := p0 ++ (p1 ++ [])) (pv := []) hW2 (fun _ _ _ => (trodAll_cons_mk (shut_bool Try.underlying4 _) trodAll_mk0))
    (fun sp hsp => (trodAll_cons_mk (WideElems.Trod_stays laid15 (by kernel_rfl) (of_decide_eq_true (by kernel_rfl)) h0k (fun x hx => hb.same (hlt x hx)) (fun x hx => hsp x (by simp [hx])))
      (trodAll_cons_mk (WideElems.Trod_stays laid15 (by kernel_rfl) (of_decide_eq_true (by kernel_rfl)) h1k (fun x hx => hb.same (hlt1 x hx)) (fun x hx => hsp x (by simp [hx]))) trodAll_mk0))) (fun _ _ => rfl) (by simp)
    (below_kept hb _) hz (ok_one (by kernel_rfl) rfl (okWide_bool_mk Try.underlying4 _))⟩

set_option maxRecDepth 100000 in
theorem near_lifted (os : Os) (started : os.Started) (H : Type) (enc : TypeId × Value → H) :
    ReturnsInHanded {} Try.checked os 4 .any (Rows.gatherNearestSpec.pre6 enc Try.prog Try.f4 Rows.gatherNearestRow.domain false) (Rows.gatherNearestSpec.post enc Try.prog Try.f4 false true false false) := by
  refine returnsInHanded_of_change (C := Try.checked) own15 started (by kernel_rfl) Try.func4
    (ChangeSpec.witness6 (enc := enc) (C := Try.checked) false ⟨#[], #[.slice none 0 0, .int .u8 0], []⟩ 8 (by kernel_rfl) (by kernel_rfl) (by kernel_rfl) (by kernel_rfl)) ?_
  intro W base args ds gs before hval hW _ _
  exact near_contract H enc W base args ds gs before hval hW

theorem near_over : Rows.gatherNearestRow.holds Try.pinned (OpenSpec.ofChange Rows.gatherNearestSpec) :=
  OpenClaim.holds_of_wide 4 Try.f4 rfl rfl rfl rfl rfl rfl rfl ⟨rfl, rfl, rfl, rfl, rfl⟩ rfl rfl rfl rfl rfl (by kernel_rfl) Try.func4 (by kernel_rfl)
    (of_decide_eq_true (by kernel_rfl)) (by unfold Func.isWrapper; first | (rw [if_pos (by decide +kernel)]; kernel_rfl) | (rw [if_neg (by decide +kernel)]; exact ⟨rfl, rfl⟩))
    (fun os started H enc _ => near_lifted os started H enc)
end Go.AM

namespace Go.Proofs.Ytnjbmkcbhnkggaa
theorem gatherNearest_holds : Rows.GatherNearestSaid := Go.AM.near_over
#print axioms gatherNearest_holds
end Go.Proofs.Ytnjbmkcbhnkggaa
