/-
  Calls: what is handed to the callee. Own work.
-/
import Derived.Test.YtnjbmkcbhnkggaaAmCode
set_option linter.unusedSimpArgs false
namespace Go.AM
open Go Go.RowKit

/-- read as a callee's view reads it: nothing of it may be written there -/
def SnapOk (X : Ctx) (μ : Mu) (rs : List Nat) (a : V) (v : Value) : Prop := ∀ (B : Nat → Prop) (μ' : Mu), μ'.w = μ.w →
  (∀ b, Own ⟨X.toTrEnv, B⟩ μ' b → Own X μ b ∧ ∀ r ∈ rs, (μ.O r).es.isSome = true → (μ.φ r).cap ≠ 0 → b ≠ (μ.φ r).blk) → VRel ⟨X.toTrEnv, B⟩ μ' a v
def SnapOks (X : Ctx) (μ : Mu) (rs : List Nat) (as : List V) (vs : List Value) : Prop := ∀ (B : Nat → Prop) (μ' : Mu), μ'.w = μ.w →
  (∀ b, Own ⟨X.toTrEnv, B⟩ μ' b → Own X μ b ∧ ∀ r ∈ rs, (μ.O r).es.isSome = true → (μ.φ r).cap ≠ 0 → b ≠ (μ.φ r).blk) → VRels ⟨X.toTrEnv, B⟩ μ' as vs

section
variable {X : Ctx} {B : Nat → Prop} {μ μ' : Mu}
mutual
theorem pure_transfer (hw : μ'.w = μ.w) (ho : ∀ b, Own ⟨X.toTrEnv, B⟩ μ' b → Own X μ b) : ∀ {x : V} {v : Value}, V.isPure x = true → VRel X μ x v → VRel ⟨X.toTrEnv, B⟩ μ' x v
  | .bool _, _, _, h | .int .., _, _, h | .float _, _, _, h | .str _, _, _, h | .nilp, _, _, h | .nilfn, _, _, h | .nili, _, _, h | .nils, _, _, h => by simpa [VRel] using h
  | .any, _, hp, _ | .own .., _, hp, _ | .msl .., _, hp, _ | .mptr .., _, hp, _ | .sl .., _, hp, _ | .ptr .., _, hp, _ => by simp [V.isPure] at hp
  | .agg cs, _, hp, h => by
    simp only [VRel] at h ⊢
    obtain ⟨h1, vs, rfl, h2⟩ := h
    exact ⟨h1, vs, rfl, pures_transfer hw ho (by simpa [V.isPure] using hp) h2⟩
  | .tuple cs, _, hp, h => by
    simp only [VRel] at h ⊢
    obtain ⟨vs, rfl, h2⟩ := h
    exact ⟨vs, rfl, pures_transfer hw ho (by simpa [V.isPure] using hp) h2⟩
  | .fn f cs, _, hp, h => by
    simp only [VRel] at h ⊢
    obtain ⟨F, cv, rfl, h1, h2⟩ := h
    exact ⟨F, cv, rfl, h1, pures_transfer hw ho (by simpa [V.isPure] using hp) h2⟩
  | .iface t x, _, hp, h => by
    simp only [VRel] at h ⊢
    obtain ⟨F, y, rfl, h1, h2⟩ := h
    exact ⟨F, y, rfl, h1, pure_transfer hw ho (by simpa [V.isPure] using hp) h2⟩
  | .lit sz xs, _, hp, h => by
    simp only [VRel] at h ⊢
    obtain ⟨h0, h0', a, cap, vs, rfl, h1, h2, h3⟩ := h
    refine ⟨h0, h0', a, cap, vs, rfl, h1, pures_transfer hw ho h0 h2, h3.imp id ?_⟩
    rintro ⟨b, o, rfl, hb, hs, hr⟩
    exact ⟨b, o, rfl, fun hh => hb (ho b hh), by rw [hw]; exact hs, by rw [hw]; exact hr⟩
  | .eptr e off, _, hp, h => by
    simp only [VRel] at h ⊢
    obtain ⟨h0, h0', b, o, sz, x, rfl, hb, hs, h1, hr⟩ := h
    exact ⟨h0, h0', b, o, sz, x, rfl, fun hh => hb (ho b hh), by rw [hw]; exact hs, pure_transfer hw ho h0 h1, by rw [hw]; exact hr⟩
theorem pures_transfer (hw : μ'.w = μ.w) (ho : ∀ b, Own ⟨X.toTrEnv, B⟩ μ' b → Own X μ b) : ∀ {xs : List V} {vs : List Value}, V.arePure xs = true → VRels X μ xs vs → VRels ⟨X.toTrEnv, B⟩ μ' xs vs
  | [], [], _, _ => by simp [VRels]
  | [], _ :: _, _, h => by simp [VRels] at h
  | _ :: _, [], _, h => by simp [VRels] at h
  | x :: xs, v :: vs, hp, h => by
    simp only [VRels] at h ⊢
    simp only [V.arePure, Bool.and_eq_true] at hp
    exact ⟨pure_transfer hw ho hp.1 h.1, pures_transfer hw ho hp.2 h.2⟩
end
end

theorem arePure_window {es : List V} {off len : Nat} (h : V.arePure es = true) : V.arePure (window es off len) = true := arePure_take _ (arePure_drop _ h)

section
variable {X : Ctx} {C : Oracle} {T : Nat → V} {μ : Mu}

theorem SnapOk.of_pure {a : V} {v : Value} (hp : V.isPure a = true) (h : VRel X μ a v) (rs : List Nat) : SnapOk X μ rs a v :=
  fun _ _ hw ho => pure_transfer hw (fun b hb => (ho b hb).1) hp h
theorem SnapOk.more {rs rs' : List Nat} {a : V} {v : Value} (h : SnapOk X μ rs a v) (hs : ∀ r ∈ rs, r ∈ rs') : SnapOk X μ rs' a v :=
  fun B μ' hw ho => h B μ' hw fun b hb => ⟨(ho b hb).1, fun r hr => (ho b hb).2 r (hs r hr)⟩
theorem SnapOks.more {rs rs' : List Nat} {a : List V} {v : List Value} (h : SnapOks X μ rs a v) (hs : ∀ r ∈ rs, r ∈ rs') : SnapOks X μ rs' a v :=
  fun B μ' hw ho => h B μ' hw fun b hb => ⟨(ho b hb).1, fun r hr => (ho b hb).2 r (hs r hr)⟩

theorem snapL_sound {f : V → (V → List Nat → Act) → Act}
    (hf : ∀ {v : V} {k : V → List Nat → Act} {val : Value} {p : V × St}, VRel X μ v val → (f v k).run C ⟨T, μ.O⟩ = some p → ∃ v' rs, (k v' rs).run C ⟨T, μ.O⟩ = some p ∧ V.isPure v' = true ∧ SnapOk X μ rs v' val ∧ (v.lies = true → v'.lies = true) ∧ (v.isCell = true → v'.isCell = true)) :
    ∀ {vs : List V} {k : List V → List Nat → Act} {vals : List Value} {p : V × St}, VRels X μ vs vals → (snapL f vs k).run C ⟨T, μ.O⟩ = some p →
      ∃ vs' rs, (k vs' rs).run C ⟨T, μ.O⟩ = some p ∧ V.arePure vs' = true ∧ SnapOks X μ rs vs' vals ∧ vs'.length = vs.length ∧ (vs.all V.lies = true → vs'.all V.lies = true) ∧ (vs.all V.isCell = true → vs'.all V.isCell = true)
  | [], k, [], p, _, hrun => ⟨[], [], hrun, rfl, fun _ _ _ _ => by simp [VRels], rfl, id, id⟩
  | [], _, _ :: _, _, h, _ => by simp [VRels] at h
  | _ :: _, _, [], _, h, _ => by simp [VRels] at h
  | v :: vs, k, val :: vals, p, h, hrun => by
    simp only [VRels] at h
    obtain ⟨v', rs, h1, h2, h3, h4, h5⟩ := hf h.1 hrun
    obtain ⟨vs', rs', k1, k2, k3, k4, k5, k6⟩ := snapL_sound hf h.2 h1
    refine ⟨v' :: vs', rs ++ rs', k1, by simp [V.arePure, h2, k2], fun B μ' hw ho => ?_, by simp [k4], ?_, ?_⟩
    · simp only [VRels]
      exact ⟨h3.more (fun r hr => by simp [hr]) B μ' hw ho, k3.more (fun r hr => by simp [hr]) B μ' hw ho⟩
    · simp only [List.all_cons, Bool.and_eq_true]; exact fun hh => ⟨h4 hh.1, k5 hh.2⟩
    · simp only [List.all_cons, Bool.and_eq_true]; exact fun hh => ⟨h5 hh.1, k6 hh.2⟩

theorem snapAll_sound {f : V → (V → List Nat → Act) → Act}
    (hf : ∀ {v : V} {k : V → List Nat → Act} {val : Value} {p : V × St}, VRel X μ v val → (f v k).run C ⟨T, μ.O⟩ = some p → ∃ v' rs, (k v' rs).run C ⟨T, μ.O⟩ = some p ∧ V.isPure v' = true ∧ SnapOk X μ rs v' val ∧ (v.lies = true → v'.lies = true) ∧ (v.isCell = true → v'.isCell = true))
    {vs : List V} {k : List V → List Nat → Act} {vals : List Value} {p : V × St} (h : VRels X μ vs vals) (hrun : (snapAll f vs k).run C ⟨T, μ.O⟩ = some p) :
      ∃ vs' rs, (k vs' rs).run C ⟨T, μ.O⟩ = some p ∧ V.arePure vs' = true ∧ SnapOks X μ rs vs' vals ∧ vs'.length = vs.length ∧ (vs.all V.lies = true → vs'.all V.lies = true) ∧ (vs.all V.isCell = true → vs'.all V.isCell = true) := by
  unfold snapAll at hrun
  split at hrun
  · rename_i hp
    exact ⟨vs, [], hrun, hp, fun _ _ hw ho => pures_transfer hw (fun b hb => (ho b hb).1) hp h, rfl, id, id⟩
  · exact snapL_sound hf h hrun

theorem snapV_sound (ho : Objs X μ) : ∀ (d : Nat) {v : V} {k : V → List Nat → Act} {val : Value} {p : V × St}, VRel X μ v val → (snapV d v k).run C ⟨T, μ.O⟩ = some p →
    ∃ v' rs, (k v' rs).run C ⟨T, μ.O⟩ = some p ∧ V.isPure v' = true ∧ SnapOk X μ rs v' val ∧ (v.lies = true → v'.lies = true) ∧ (v.isCell = true → v'.isCell = true)
  | 0, v, k, val, p, h, hrun => by
    simp only [snapV] at hrun
    split at hrun
    · rename_i hp; exact ⟨v, [], hrun, hp, SnapOk.of_pure hp h _, id, id⟩
    · exact absurd hrun run_fail
  | d + 1, v, k, val, p, h, hrun => by
    have ih := fun {v : V} {k : V → List Nat → Act} {val : Value} {p : V × St} => snapV_sound ho d (v := v) (k := k) (val := val) (p := p)
    simp only [snapV] at hrun
    split at hrun
    · rename_i hp; exact ⟨v, [], hrun, hp, SnapOk.of_pure hp h _, id, id⟩
    · rename_i hnp
      split at hrun
      · -- agg
        simp only [VRel] at h
        obtain ⟨h0, vs, rfl, hv⟩ := h
        obtain ⟨cs', rs, k1, k2, k3, k4, k5, k6⟩ := snapL_sound ih hv hrun
        refine ⟨_, rs, k1, by simpa [V.isPure] using k2, fun B μ' hw hh => ?_, fun _ => rfl, fun hc => by simp [V.isCell] at hc⟩
        simp only [VRel]
        exact ⟨k6 h0, vs, rfl, k3 B μ' hw hh⟩
      · -- fn
        simp only [VRel] at h
        obtain ⟨F, cv, rfl, hf, hv⟩ := h
        obtain ⟨cs', rs, k1, k2, k3, k4, k5, k6⟩ := snapL_sound ih hv hrun
        refine ⟨_, rs, k1, by simpa [V.isPure] using k2, fun B μ' hw hh => ?_, fun _ => rfl, fun _ => rfl⟩
        simp only [VRel]
        exact ⟨F, cv, rfl, hf, k3 B μ' hw hh⟩
      · -- iface
        simp only [VRel] at h
        obtain ⟨F, y, rfl, hf, hv⟩ := h
        obtain ⟨x', rs, k1, k2, k3, k4, k5⟩ := ih hv hrun
        refine ⟨_, rs, k1, by simpa [V.isPure] using k2, fun B μ' hw hh => ?_, fun _ => rfl, fun _ => rfl⟩
        simp only [VRel]
        exact ⟨F, y, rfl, hf, k3 B μ' hw hh⟩
      · -- sl
        rename_i r g off len
        simp only [Act.run] at hrun
        split at hrun
        · rename_i es hes
          split at hrun
          · rename_i hc
            obtain ⟨hgen, harr, hfit⟩ := hc
            simp only [VRel] at h
            obtain ⟨a, cap, rfl, hle, hge, haddr⟩ := h
            obtain ⟨a1, a2⟩ := haddr hgen
            obtain ⟨q1, q2, q3, q4⟩ := ho.ok r es hes
            have hwl : (window es off len).length = len := by simp [window]; omega
            have hlies : (window es off len).all V.lies = true := by
              simp only [List.all_eq_true] at q3 ⊢
              exact fun x hx => (isBlank_lies (q3 x (List.mem_of_mem_drop (List.mem_of_mem_take hx)))).1
            have hvs : ∃ vs, VRels X μ (window es off len) vs ∧ (len = 0 ∨ ((μ.φ r).cap ≠ 0 ∧ (μ.φ r).blk < μ.w.heap.size ∧ a = some ⟨(μ.φ r).blk, (μ.φ r).base + off * (μ.O r).sz, none⟩ ∧ RowAt μ.w (μ.φ r).blk ((μ.φ r).base + off * (μ.O r).sz) (μ.O r).sz vs)) := by
              by_cases hl0 : len = 0
              · exact ⟨[], by simp [window, hl0, VRels], .inl hl0⟩
              · rcases q4 with q4 | ⟨cc, TT, vs, p1, p2, p3, p4⟩
                · omega
                · exact ⟨(vs.drop off).take len, VRels.take _ (VRels.drop _ p3), .inr ⟨by omega, (Array.getElem?_eq_some_iff.1 p1).1, a2.resolve_left (by omega), (p4.drop off).take len⟩⟩
            obtain ⟨vs, hv1, hv2⟩ := hvs
            obtain ⟨xs', rs, k1, k2, k3, k4, k5, k6⟩ := snapAll_sound ih hv1 hrun
            refine ⟨_, r :: rs, k1, rfl, fun B μ' hw hh => ?_, fun _ => rfl, fun _ => rfl⟩
            have hx := k3.more (rs' := r :: rs) (fun q hq => by simp [hq]) B μ' hw hh
            simp only [VRel]
            refine ⟨k2, k5 hlies, a, cap, vs, by rw [k4, hwl], by rw [k4, hwl]; exact hle, hx, ?_⟩
            rcases hv2 with hl0 | ⟨c0, c1, c2, c3⟩
            · left
              have : xs'.length = 0 := by rw [k4, hwl]; exact hl0
              simpa using this
            · right
              refine ⟨_, _, c2, fun hown => ?_, by rw [hw]; exact c1, by rw [hw]; exact c3⟩
              exact (hh _ hown).2 r (by simp) (by simp [hes]) c0 rfl
          · exact absurd hrun run_fail
        · exact absurd hrun run_fail
      · -- ptr
        rename_i r g idx off
        simp only [Act.run] at hrun
        split at hrun
        · rename_i es hes
          split at hrun
          · rename_i hgen
            split at hrun
            · rename_i e he
              simp only [VRel] at h
              obtain ⟨a, rfl, hge, haddr⟩ := h
              have hae := haddr hgen
              obtain ⟨q1, q2, q3, q4⟩ := ho.ok r es hes
              have hlt : idx < es.length := (List.getElem?_eq_some_iff.1 he).1
              rcases q4 with q4 | ⟨cc, TT, vs, p1, p2, p3, p4⟩
              · omega
              · obtain ⟨x, hx, hrel⟩ := p3.get he
                have hbl : isBlank e (μ.O r).sz = true := by
                  simp only [List.all_eq_true] at q3
                  exact q3 e (List.mem_of_getElem? he)
                obtain ⟨e', rs, k1, k2, k3, k4, k5⟩ := ih hrel hrun
                refine ⟨_, r :: rs, k1, rfl, fun B μ' hw hh => ?_, fun _ => rfl, fun _ => rfl⟩
                simp only [VRel]
                have hrow : RowAt μ.w (μ.φ r).blk ((μ.φ r).base + idx * (μ.O r).sz) (μ.O r).sz [x] := by
                  have := (p4.drop idx).take 1
                  have hd1 : (vs.drop idx).take 1 = [x] := by
                    have hl2 : idx < vs.length := (List.getElem?_eq_some_iff.1 hx).1
                    rw [List.drop_eq_getElem_cons hl2, List.take_succ_cons, List.take_zero]
                    rw [List.getElem?_eq_getElem hl2] at hx
                    injection hx with hx; rw [hx]
                  rwa [hd1] at this
                refine ⟨k2, k4 (isBlank_lies hbl).1, (μ.φ r).blk, (μ.φ r).base + idx * (μ.O r).sz, (μ.O r).sz, x, by rw [hae], fun hown => ?_, by rw [hw]; exact (Array.getElem?_eq_some_iff.1 p1).1,
                  k3.more (rs' := r :: rs) (fun q hq => by simp [hq]) B μ' hw hh, by rw [hw]; exact hrow⟩
                exact (hh _ hown).2 r (by simp) (by simp [hes]) (by omega) rfl
            · exact absurd hrun run_fail
          · exact absurd hrun run_fail
        · exact absurd hrun run_fail
      · exact absurd hrun run_fail

/-- the arguments as the callee sees them -/
inductive Prep (X : Ctx) (μ : Mu) (r0 : Nat) : Nat → List V → List Value → List Nat → List WRef → Prop
  | nil (i : Nat) : Prep X μ r0 i [] [] [] []
  | plain {i : Nat} {a : V} {v : Value} {rs rs' : List Nat} {as : List V} {vs : List Value} {ws : List WRef} (hp : V.isPure a = true) (hs : SnapOk X μ rs a v) (h : Prep X μ r0 (i + 1) as vs rs' ws) :
      Prep X μ r0 i (a :: as) (v :: vs) (rs ++ rs') ws
  | sl {i r g off len : Nat} {es : List V} {v : Value} {rs : List Nat} {as : List V} {vs : List Value} {ws : List WRef} (hes : (μ.O r).es = some es) (hfz : (μ.O r).fz = false) (hgen : (μ.O r).gen = g) (hpu : V.arePure es = true)
      (hfit : off + len ≤ es.length) (hv : VRel X μ (.sl r g off len) v) (h : Prep X μ r0 (i + 1) as vs rs ws) : Prep X μ r0 i (.msl (μ.O r).sz es off len :: as) (v :: vs) rs (⟨i, r, none⟩ :: ws)
  | ptr {i r g idx off : Nat} {es : List V} {v : Value} {rs : List Nat} {as : List V} {vs : List Value} {ws : List WRef} (hes : (μ.O r).es = some es) (hfz : (μ.O r).fz = false) (hgen : (μ.O r).gen = g) (hpu : V.arePure es = true)
      (hv : VRel X μ (.ptr r g idx off) v) (h : Prep X μ r0 (i + 1) as vs rs ws) : Prep X μ r0 i (.mptr (μ.O r).sz es idx off :: as) (v :: vs) rs (⟨i, r, none⟩ :: ws)
  | fresh {i sz : Nat} {v : Value} {rs : List Nat} {as : List V} {vs : List Value} {ws : List WRef} (hsz : 0 < sz) (hv : ∃ a, v = .slice a 0 0) (h : Prep X μ r0 (i + 1) as vs rs ws) :
      Prep X μ r0 i (.msl sz [] 0 0 :: as) (v :: vs) rs (⟨i, r0 + i, some sz⟩ :: ws)

theorem prepare_sound (ho : Objs X μ) {r0 : Nat} : ∀ {vs : List V} {ms : List (Option Nat)} {i : Nat} {k : List V → List Nat → List WRef → Act} {vals : List Value} {p : V × St}, VRels X μ vs vals →
    (prepare r0 vs ms i k).run C ⟨T, μ.O⟩ = some p → ∃ as rs ws, (k as rs ws).run C ⟨T, μ.O⟩ = some p ∧ Prep X μ r0 i as vals rs ws
  | [], ms, i, k, [], p, _, hrun => ⟨[], [], [], by simpa [prepare] using hrun, .nil i⟩
  | [], _, _, _, _ :: _, _, h, _ => by simp [VRels] at h
  | _ :: _, _, _, _, [], _, h, _ => by simp [VRels] at h
  | v :: vs, [], i, k, val :: vals, p, h, hrun => by
    simp only [VRels] at h
    simp only [prepare, snap] at hrun
    obtain ⟨v', rs, h1, h2, h3, _, _⟩ := snapV_sound ho 5 h.1 hrun
    obtain ⟨as, rs', ws, k1, k2⟩ := prepare_sound ho h.2 h1
    exact ⟨_, _, _, k1, .plain h2 h3 k2⟩
  | v :: vs, m :: ms, i, k, val :: vals, p, h, hrun => by
    simp only [VRels] at h
    simp only [prepare] at hrun
    split at hrun
    · split at hrun
      · split at hrun
        · rename_i hsz
          obtain ⟨as, rs', ws, k1, k2⟩ := prepare_sound ho h.2 hrun
          have h1 := h.1
          simp only [VRel] at h1
          exact ⟨_, _, _, k1, .fresh hsz h1 k2⟩
        · exact absurd hrun run_fail
      · rename_i r g off len
        simp only [Act.run] at hrun
        split at hrun
        · rename_i es hes
          split at hrun
          · rename_i hc
            obtain ⟨c1, c2, c3, c4, c5⟩ := hc
            obtain ⟨as, rs', ws, k1, k2⟩ := prepare_sound ho h.2 hrun
            rw [← c3] at k1
            exact ⟨_, _, _, k1, .sl hes c2 c1 c5 c4 h.1 k2⟩
          · exact absurd hrun run_fail
        · exact absurd hrun run_fail
      · rename_i r g idx off
        simp only [Act.run] at hrun
        split at hrun
        · rename_i es hes
          split at hrun
          · rename_i hc
            obtain ⟨c1, c2, c3, c4⟩ := hc
            obtain ⟨as, rs', ws, k1, k2⟩ := prepare_sound ho h.2 hrun
            rw [← c3] at k1
            exact ⟨_, _, _, k1, .ptr hes c2 c1 c4 h.1 k2⟩
          · exact absurd hrun run_fail
        · exact absurd hrun run_fail
      · exact absurd hrun run_fail
    · simp only [snap] at hrun
      obtain ⟨v', rs, h1, h2, h3, _, _⟩ := snapV_sound ho 5 h.1 hrun
      obtain ⟨as, rs', ws, k1, k2⟩ := prepare_sound ho h.2 h1
      exact ⟨_, _, _, k1, .plain h2 h3 k2⟩

end
end Go.AM
