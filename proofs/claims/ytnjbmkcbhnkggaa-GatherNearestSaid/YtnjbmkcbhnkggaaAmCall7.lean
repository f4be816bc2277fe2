/-
  Calls: the caller's view once the call is over. Own work.
-/
import Derived.Test.YtnjbmkcbhnkggaaAmCall6
set_option linter.unusedSimpArgs false
namespace Go.AM
open Go Go.RowKit

mutual
theorem isPure_of_isScalar : ∀ {x : V}, V.isScalar x = true → V.isPure x = true
  | .bool _, _ | .int .., _ | .float _, _ | .str _, _ | .nilp, _ | .nilfn, _ | .nili, _ | .nils, _ => rfl
  | .any, hp | .own .., hp | .msl .., hp | .mptr .., hp | .sl .., hp | .ptr .., hp | .lit .., hp | .eptr .., hp | .fn .., hp | .iface .., hp => by simp [V.isScalar] at hp
  | .agg cs, hp => by simpa [V.isPure] using arePure_of_areScalar (by simpa [V.isScalar] using hp)
  | .tuple cs, hp => by simpa [V.isPure] using arePure_of_areScalar (by simpa [V.isScalar] using hp)
theorem arePure_of_areScalar : ∀ {xs : List V}, V.areScalar xs = true → V.arePure xs = true
  | [], _ => rfl
  | x :: xs, hp => by
    simp only [V.areScalar, Bool.and_eq_true] at hp
    simp only [V.arePure, Bool.and_eq_true]
    exact ⟨isPure_of_isScalar hp.1, arePure_of_areScalar hp.2⟩
end

section
variable {Y : Ctx} {μf μ1 : Mu} {n : Nat} {thaw : Bool} {C : Oracle} {T : Nat → V}

def ExpR (Y : Ctx) (μ : Mu) (n : Nat) (v : V) (rs : List Nat) (val : Value) : Prop :=
  ExpV Y μ n v rs val ∨ ∃ vs us, v = .tuple vs ∧ val = .tuple us ∧ ExpVs Y μ n vs rs us.toList

theorem Exported.expR (h1 : Objs Y μ1) {T' : Nat → V} {v0 v : V} {rs : List Nat} {val : Value} (hv : VRel Y μ1 v0 val) (h : Exported n ⟨T', μ1.O⟩ v0 v rs) : ExpR Y μ1 n v rs val := by
  cases h with
  | one h => exact .inl (exportV_sound h1 hv h)
  | many h =>
    simp only [VRel] at hv
    obtain ⟨us, rfl, hv⟩ := hv
    exact .inr ⟨_, us, rfl, rfl, exportVs_sound h1 hv h⟩

theorem ExpR.pure {v : V} {rs : List Nat} {val : Value} (h : ExpR Y μ1 n v rs val) (hp : V.isPure v = true) : VRel Y μ1 v val := by
  rcases h with h | ⟨vs, us, rfl, rfl, h⟩
  · have hs : ExpVs Y μ1 n [v] (rs ++ []) [val] := .cons h .nil
    have := (hs.pures (by simp [V.arePure, hp])).1
    simp only [VRels] at this
    exact this.1
  · simp only [VRel]
    exact ⟨us, rfl, (h.pures (by simpa [V.isPure] using hp)).1⟩

theorem importRes_sound (h1 : Objs Y μ1) {U : Nat → Prop} {A : Nat → Option Nat} {φ : Nat → Row} {O : Nat → Obj} {gs : List (Nat × Nat × Nat)} {c v : V} {rs : List Nat} {val : Value} {r : Nat} {σ' : St}
    (ht : Taken Y μf μ1 U A φ O) (hgs : ∀ x ∈ gs, RefOk μ1 φ O x.1 x.2.1 x.2.2) (he : ExpR Y μ1 n c rs val) (hU : ∀ j ∈ rs, n ≤ j → ¬ U j) (hd : distinct rs = true) (hrun : (importRes thaw r gs c .done).run C ⟨T, O⟩ = some (v, σ')) :
    σ'.T = T ∧ ((V.isPure c = true ∧ v = c ∧ σ'.O = O ∧ VRel Y μ1 c val) ∨ ∃ A' φ', Taken Y μf μ1 (fun j => U j ∨ (thaw = true ∧ j ∈ rs)) A' φ' σ'.O ∧ GMono φ O φ' σ'.O ∧ (∀ r, A r ≠ none → A' r ≠ none) ∧ VRel ⟨Y.toTrEnv, after Y μ1 n thaw⟩ (quiet μ1 φ' σ'.O) v val) := by
  unfold importRes at hrun
  split at hrun
  · rename_i hp
    obtain ⟨rfl, rfl⟩ := run_done hrun
    exact ⟨rfl, .inl ⟨hp, rfl, rfl, he.pure hp⟩⟩
  · rename_i hnp
    split at hrun
    · rename_i vs
      rcases he with he | ⟨vs', us, e, rfl, he⟩
      · cases he with
        | cell h =>
          cases h with
          | pure hp hv => exact absurd hp hnp
      · injection e with e; subst e
        obtain ⟨A1, φ1, O1, c1, k1, k2, k3, k4, k5⟩ := importVs_sound h1 ht hgs he hU hd hrun
        obtain ⟨rfl, rfl⟩ := run_done k1
        refine ⟨rfl, .inr ⟨A1, φ1, k2, k3, k4, ?_⟩⟩
        simp only [VRel]
        exact ⟨us, rfl, k5⟩
    · rename_i hnt
      rcases he with he | ⟨vs', us, e, rfl, he⟩
      · obtain ⟨A1, φ1, O1, c1, k1, k2, k3, k4, k5⟩ := importV_sound h1 ht hgs he hU hd hrun
        obtain ⟨rfl, rfl⟩ := run_done k1
        exact ⟨rfl, .inr ⟨A1, φ1, k2, k3, k4, k5⟩⟩
      · exact absurd e (hnt vs')

end

section
variable {X : Ctx} {μ μ1 : Mu} {r0 : Nat}

/-- a view of the caller's, made of what was its own and of what the callee left -/
theorem back_view {as : List V} {vals : List Value} {rs : List Nat} {ws : List WRef} (ho : Objs X μ) (hp : Prep X μ r0 0 as vals rs ws)
    (le : Le ⟨μ.w, rowIn μ.φ ws, (enter as).O⟩ μ1) (h1 : Objs ⟨X.toTrEnv, banned X μ rs ws⟩ μ1) {Of : Nat → Obj} (hf : Objs X ⟨μ.w, μ.φ, Of⟩) (hOf : ∀ w ∈ ws, Of w.r = μ.O w.r)
    {U : Nat → Prop} {A : Nat → Option Nat} {φ : Nat → Row} {O : Nat → Obj} (ht : Taken ⟨X.toTrEnv, banned X μ rs ws⟩ ⟨μ.w, μ.φ, Of⟩ μ1 U A φ O) (hm : GMono μ.φ Of φ O) (hA : ∀ w ∈ ws, A w.r ≠ none)
    (hT : ∀ j, U j → ((∀ es, (μ1.O j).es = some es → V.areScalar es = true)) ∨ ∀ b, Own X ⟨μ1.w, φ, O⟩ b → Own ⟨X.toTrEnv, banned X μ rs ws⟩ μ1 b) :
    Le ⟨μ.w, μ.φ, Of⟩ ⟨μ1.w, φ, O⟩ ∧ Objs X ⟨μ1.w, φ, O⟩ := by
  -- blocks of the callee's at its entry
  have hown0 : ∀ b, (⟨μ.w, rowIn μ.φ ws, (enter as).O⟩ : Mu).own b → ∃ w ∈ ws, (Of w.r).es.isSome = true ∧ (Of w.r).fz = false ∧ (μ.φ w.r).cap ≠ 0 ∧ (μ.φ w.r).blk = b := fun b hb => by
    obtain ⟨i, r, k1, k2, k3, k4, k5⟩ := entry_own hp hb
    have e := hOf _ k1
    simp only at e
    exact ⟨_, k1, by rw [e]; exact k2, by rw [e]; exact k3, k4, k5⟩
  have own1 : ∀ j, (μ1.O j).es.isSome = true ∧ (μ1.O j).fz = false → (μ1.φ j).cap ≠ 0 → μ1.own (μ1.φ j).blk := fun j hl hc => ⟨j, hl.1, hl.2, hc, rfl⟩
  -- blocks that the caller kept to itself
  have kept : ∀ r, A r = none → (Of r).es.isSome = true → (μ.φ r).cap ≠ 0 → (μ.φ r).blk < μ.w.heap.size ∧ μ1.w.heap[(μ.φ r).blk]? = μ.w.heap[(μ.φ r).blk]? ∧ ¬ μ1.own (μ.φ r).blk := fun r hr hs hc => by
    obtain ⟨es, he⟩ := Option.isSome_iff_exists.1 hs
    obtain ⟨_, _, _, q4⟩ := hf.ok r es he
    rcases q4 with q4 | ⟨_, _, _, p1, _⟩
    · exact absurd q4 hc
    · have hlt := (Array.getElem?_eq_some_iff.1 p1).1
      have hno : ¬ (⟨μ.w, rowIn μ.φ ws, (enter as).O⟩ : Mu).own (μ.φ r).blk := fun hb => by
        obtain ⟨w, k1, k2, k3, k4, k5⟩ := hown0 _ hb
        have hne : w.r ≠ r := fun e => hA w k1 (e ▸ hr)
        exact hf.inj w.r r hne k2 hs k4 hc k5
      obtain ⟨l1, l2⟩ := le.keep _ hlt hno
      exact ⟨hlt, l1, l2⟩
  have own3 : ∀ b, (⟨μ1.w, φ, O⟩ : Mu).own b → (⟨μ.w, μ.φ, Of⟩ : Mu).own b ∨ μ1.own b := fun b hb => by
    obtain ⟨r, k1, k2, k3, k4⟩ := hb
    simp only at k1 k2 k3 k4
    cases e : A r with
    | none =>
      obtain ⟨n1, n2⟩ := ht.non r e
      rw [n1] at k1 k2
      rw [n2] at k3 k4
      exact .inl ⟨r, k1, k2, k3, k4⟩
    | some j =>
      obtain ⟨t, _⟩ := ht.som r j e
      obtain ⟨b1, b2⟩ := t.blk k3
      exact .inr ⟨j, t.live.1, t.live.2, b1, by rw [← b2]; exact k4⟩
  have LE : Le ⟨μ.w, μ.φ, Of⟩ ⟨μ1.w, φ, O⟩ := by
    refine ⟨le.size, fun b hb hno => ?_, fun r => (hm r).1, fun r e => (hm r).2 e, le.os, le.output, le.tape, le.frozen, le.fresh⟩
    have hno' : ¬ (⟨μ.w, rowIn μ.φ ws, (enter as).O⟩ : Mu).own b := fun hb' => by
      obtain ⟨w, k1, k2, k3, k4, k5⟩ := hown0 _ hb'
      exact hno ⟨w.r, k2, k3, k4, k5⟩
    obtain ⟨l1, l2⟩ := le.keep b hb hno'
    exact ⟨l1, fun h3 => (own3 b h3).elim hno l2⟩
  refine ⟨LE, fun r es hes => ?_, fun r1 r2 hne e1 e2 e3 e4 e5 => ?_, fun r k1 k2 hb => ?_, fun b hb => Nat.lt_of_lt_of_le (ho.blt b hb) le.size⟩
  · simp only at hes
    cases e : A r with
    | none =>
      obtain ⟨n1, n2⟩ := ht.non r e
      simp only at n1 n2
      rw [n1] at hes
      obtain ⟨q1, q2, q3, q4⟩ := hf.ok r es hes
      simp only [n1, n2]
      simp only at q1 q2 q3 q4
      refine ⟨q1, q2, q3, ?_⟩
      by_cases hc : (μ.φ r).cap = 0
      · exact .inl hc
      · rcases q4 with q4 | ⟨c, TT, vs, p1, p2, p3, p4⟩
        · exact absurd q4 hc
        · obtain ⟨_, l1, _⟩ := kept r e (by simp [hes]) hc
          exact .inr ⟨c, TT, vs, by rw [l1]; exact p1, p2, VRels.mono LE p3, p4.keep l1⟩
    | some j =>
      obtain ⟨t, hu⟩ := ht.som r j e
      obtain ⟨es', s0, s1, s2, s3, s4, s5⟩ := t.es
      rw [hes] at s0; injection s0 with s0; subst s0
      simp only
      refine ⟨s2, s3, s4, s5.imp id ?_⟩
      rintro ⟨c, TT, vs, p1, p2, p3, p4⟩
      refine ⟨c, TT, vs, p1, p2, ?_, p4⟩
      rcases hT j hu with hs | hs
      · exact scalars_transfer (X := ⟨X.toTrEnv, banned X μ rs ws⟩) (μ := μ1) (X' := X) (μ' := ⟨μ1.w, φ, O⟩) rfl (t.sc hs _ hes) p3
      · exact pures_transfer (X := ⟨X.toTrEnv, banned X μ rs ws⟩) (μ := μ1) (B := X.ban) (μ' := ⟨μ1.w, φ, O⟩) rfl hs s1 p3
  · simp only at e1 e2 e3 e4 e5
    cases a1 : A r1 with
    | none =>
      obtain ⟨n1, n2⟩ := ht.non r1 a1
      simp only at n1 n2
      rw [n1] at e1; rw [n2] at e3 e5
      cases a2 : A r2 with
      | none =>
        obtain ⟨m1, m2⟩ := ht.non r2 a2
        simp only at m1 m2
        rw [m1] at e2; rw [m2] at e4 e5
        exact hf.inj r1 r2 hne e1 e2 e3 e4 e5
      | some j =>
        obtain ⟨t, _⟩ := ht.som r2 j a2
        obtain ⟨b1, b2⟩ := t.blk e4
        exact (kept r1 a1 e1 e3).2.2 (by rw [e5, b2]; exact own1 j t.live b1)
    | some j =>
      obtain ⟨t, _⟩ := ht.som r1 j a1
      obtain ⟨b1, b2⟩ := t.blk e3
      cases a2 : A r2 with
      | none =>
        obtain ⟨m1, m2⟩ := ht.non r2 a2
        simp only at m1 m2
        rw [m1] at e2; rw [m2] at e4 e5
        exact (kept r2 a2 e2 e4).2.2 (by rw [← e5, b2]; exact own1 j t.live b1)
      | some j2 =>
        obtain ⟨t2, _⟩ := ht.som r2 j2 a2
        obtain ⟨c1, c2⟩ := t2.blk e4
        refine h1.inj j j2 (fun e => hne (ht.inj r1 r2 j a1 (e ▸ a2))) t.live.1 t2.live.1 b1 c1 ?_
        rw [← b2, ← c2]; exact e5
  · simp only at k1 k2 hb
    cases a1 : A r with
    | none =>
      obtain ⟨n1, n2⟩ := ht.non r a1
      simp only at n1 n2
      rw [n1] at k1; rw [n2] at k2 hb
      exact hf.nob r k1 k2 hb
    | some j =>
      obtain ⟨t, _⟩ := ht.som r j a1
      obtain ⟨b1, b2⟩ := t.blk k2
      exact h1.nob j t.live.1 b1 (.inl (b2 ▸ hb))

end
end Go.AM
