/-
  Calls: what the callee promises; what it hands back. Own work.
-/
import Derived.Test.YtnjbmkcbhnkggaaAmCall1
set_option linter.unusedSimpArgs false
namespace Go.AM
open Go Go.RowKit

/-- what an operation that calls goes on with -/
def Upon (P : Program) (r : Result Next) (R : Value → World → Prop) : Prop :=
  match r with
  | .ok (.value v) w' => R v w'
  | .ok (.enter f args) w' => Calls P f args w' fun | .returned v, w'' => R v w'' | _, _ => False
  | _ => False

theorem Upon.upon {P : Program} {r : Result Next} {R : Value → World → Prop} (h : Upon P r R) {o : Oper} {a : Go.Act} {next : Go.Act → World → Prop} {Q : Go.Exit → Go.Act → World → Prop}
    (hn : ∀ v w, R v w → next (a.put o.dst v) w) : o.upon P a next Q r := by
  unfold Upon at h
  split at h
  · exact hn _ _ h
  · rw [Oper.upon_enter]
    refine Calls.mono h fun e w' he => ?_
    cases e with
    | returned v => exact hn _ _ he
    | panicked c => exact he.elim
    | outgrown => exact he.elim
  · exact h.elim

def V.cellish : V → Bool
  | .own .. => true
  | c => c.isCell
theorem cellish_of_isCell {c : V} (h : c.isCell = true) : c.cellish = true := by cases c <;> simp_all [V.isCell, V.cellish]

inductive Exported (n : Nat) (σ : St) : V → V → List Nat → Prop
  | one {v0 v : V} {rs : List Nat} (h : exportV n σ v0 = some (v, rs)) : Exported n σ v0 v rs
  | many {vs vs' : List V} {rs : List Nat} (h : exportVs n σ vs = some (vs', rs)) : Exported n σ (.tuple vs) (.tuple vs') rs

/-- what a call is promised to do -/
def SoundCall (X : TrEnv) (F : FuncId) (args : List V) (res : Res) : Prop :=
  ∀ (B : Nat → Prop) (w : World) (φ0 : Nat → Row) (vals : List Value), vals.length = args.length →
    (∀ t v, vals[t]? = some v → VRel ⟨X, B⟩ ⟨w, φ0, (enter args).O⟩ ((enter args).T t) v) → Objs ⟨X, B⟩ ⟨w, φ0, (enter args).O⟩ →
    Upon X.P ((callFunc F vals.toArray).run X.P w) fun val w' => ∃ φ' T' O' v0 refs, Le ⟨w, φ0, (enter args).O⟩ ⟨w', φ', O'⟩ ∧ Objs ⟨X, B⟩ ⟨w', φ', O'⟩ ∧
      VRel ⟨X, B⟩ ⟨w', φ', O'⟩ v0 val ∧ Exported args.length ⟨T', O'⟩ v0 res.val refs ∧ distinct refs = true ∧ outsOf O' 0 args = some res.outs

/-! ## what is handed back -/
inductive Exp (Y : Ctx) (μ : Mu) (n : Nat) : V → List Nat → Value → Prop
  | pure {c : V} {val : Value} (hp : c.isPure = true) (h : VRel Y μ c val) : Exp Y μ n c [] val
  | sl {r g off len : Nat} {es : List V} {val : Value} (hr : r < n) (hes : (μ.O r).es = some es) (hg : (μ.O r).gen = g) (hl : off + len ≤ es.length) (h : VRel Y μ (.sl r g off len) val) : Exp Y μ n (.sl r g off len) [r] val
  | own {r g off len : Nat} {es : List V} {val : Value} (hr : n ≤ r) (hes : (μ.O r).es = some es) (hfz : (μ.O r).fz = false) (hg : (μ.O r).gen = g) (hl : off + len ≤ es.length) (hp : V.arePure (window es off len) = true)
      (h : VRel Y μ (.sl r g off len) val) : Exp Y μ n (.own (μ.O r).sz (window es off len)) [r] val
inductive Exps (Y : Ctx) (μ : Mu) (n : Nat) : List V → List Nat → List Value → Prop
  | nil : Exps Y μ n [] [] []
  | cons {c : V} {rs rs' : List Nat} {val : Value} {cs : List V} {vals : List Value} (h : Exp Y μ n c rs val) (hs : Exps Y μ n cs rs' vals) : Exps Y μ n (c :: cs) (rs ++ rs') (val :: vals)

section
variable {Y : Ctx} {μ : Mu} {n : Nat}

theorem Exps.length {cs : List V} {rs : List Nat} {vals : List Value} (h : Exps Y μ n cs rs vals) : cs.length = vals.length := by
  induction h with
  | nil => rfl
  | cons _ _ ih => simp [ih]

theorem frozen_lit (ho : Objs Y μ) {r g off len : Nat} {es : List V} {val : Value} (hes : (μ.O r).es = some es) (hfz : (μ.O r).fz = true) (hg : (μ.O r).gen = g) (hl : off + len ≤ es.length)
    (hp : V.arePure (window es off len) = true) (h : VRel Y μ (.sl r g off len) val) : VRel Y μ (.lit (μ.O r).sz (window es off len)) val := by
  simp only [VRel] at h ⊢
  obtain ⟨a, cap, rfl, hle, hge, haddr⟩ := h
  obtain ⟨a1, a2⟩ := haddr hg
  obtain ⟨q1, q2, q3, q4⟩ := ho.ok r es hes
  have hwl : (window es off len).length = len := by simp [window]; omega
  have hlies : (window es off len).all V.lies = true := by
    simp only [List.all_eq_true] at q3 ⊢
    exact fun x hx => (isBlank_lies (q3 x (List.mem_of_mem_drop (List.mem_of_mem_take hx)))).1
  by_cases hl0 : len = 0
  · exact ⟨hp, hlies, a, cap, [], by rw [hwl], by omega, by simp [window, hl0, VRels], .inl (by simpa using hwl.trans hl0)⟩
  · rcases q4 with q4 | ⟨cc, TT, vs, p1, p2, p3, p4⟩
    · omega
    · refine ⟨hp, hlies, a, cap, (vs.drop off).take len, by rw [hwl], by omega, VRels.take _ (VRels.drop _ p3), .inr ⟨_, _, a2.resolve_left (by omega), ?_, (Array.getElem?_eq_some_iff.1 p1).1, (p4.drop off).take len⟩⟩
      rintro (⟨r', k1, k2, k3, k4⟩ | hb)
      · by_cases e : r' = r
        · subst e; rw [hfz] at k2; simp at k2
        · exact ho.inj r' r e k1 (by simp [hes]) k3 (by omega) k4
      · exact ho.nob r (by simp [hes]) (by omega) hb

theorem exportCell_sound (ho : Objs Y μ) {T : Nat → V} {c c' : V} {rs : List Nat} {val : Value} (h : VRel Y μ c val) (he : exportCell n ⟨T, μ.O⟩ c = some (c', rs)) : Exp Y μ n c' rs val := by
  unfold exportCell at he
  split at he
  · rename_i r g off len
    simp only at he
    split at he
    · rename_i es hes
      split at he
      · rename_i hc
        obtain ⟨c1, c2, c3, c4⟩ := hc
        split at he
        · rename_i hr
          simp only [Option.some.injEq, Prod.mk.injEq] at he
          obtain ⟨rfl, rfl⟩ := he
          exact .sl hr hes c1 c2 h
        · rename_i hr
          split at he
          · rename_i hfz
            simp only [Option.some.injEq, Prod.mk.injEq] at he
            obtain ⟨rfl, rfl⟩ := he
            exact .pure rfl (frozen_lit ho hes hfz c1 c2 c4 h)
          · rename_i hfz
            simp only [Option.some.injEq, Prod.mk.injEq] at he
            obtain ⟨rfl, rfl⟩ := he
            exact .own (by omega) hes (by simpa using hfz) c1 c2 c4 h
      · simp at he
    · simp at he
  · split at he
    · rename_i hp
      simp only [Option.some.injEq, Prod.mk.injEq] at he
      obtain ⟨rfl, rfl⟩ := he
      exact .pure hp h
    · simp at he

theorem exportCells_sound (ho : Objs Y μ) {T : Nat → V} : ∀ {cs cs' : List V} {rs : List Nat} {vals : List Value}, VRels Y μ cs vals → exportCells n ⟨T, μ.O⟩ cs = some (cs', rs) → Exps Y μ n cs' rs vals
  | [], cs', rs, [], _, he => by simp [exportCells] at he; obtain ⟨rfl, rfl⟩ := he; exact .nil
  | [], _, _, _ :: _, h, _ => by simp [VRels] at h
  | _ :: _, _, _, [], h, _ => by simp [VRels] at h
  | c :: cs, cs', rs, v :: vs, h, he => by
    simp only [VRels] at h
    simp only [exportCells] at he
    split at he
    · rename_i c1 r1 cs1 rs1 h1 h2
      simp only [Option.some.injEq, Prod.mk.injEq] at he
      obtain ⟨rfl, rfl⟩ := he
      exact .cons (exportCell_sound ho h.1 h1) (exportCells_sound ho h.2 h2)
    · simp at he

/-- an exported value: a cell, or a struct of cells -/
inductive ExpV (Y : Ctx) (μ : Mu) (n : Nat) : V → List Nat → Value → Prop
  | cell {c : V} {rs : List Nat} {val : Value} (h : Exp Y μ n c rs val) : ExpV Y μ n c rs val
  | agg {cs : List V} {rs : List Nat} {vals : Array Value} (hc : cs.all V.cellish = true) (h : Exps Y μ n cs rs vals.toList) : ExpV Y μ n (.agg cs) rs (.agg vals)
inductive ExpVs (Y : Ctx) (μ : Mu) (n : Nat) : List V → List Nat → List Value → Prop
  | nil : ExpVs Y μ n [] [] []
  | cons {c : V} {rs rs' : List Nat} {val : Value} {cs : List V} {vals : List Value} (h : ExpV Y μ n c rs val) (hs : ExpVs Y μ n cs rs' vals) : ExpVs Y μ n (c :: cs) (rs ++ rs') (val :: vals)

theorem exportCell_isCell {T : Nat → V} {O : Nat → Obj} {c c' : V} {rs : List Nat} (he : exportCell n ⟨T, O⟩ c = some (c', rs)) (hc : c.isCell = true) : V.cellish c' = true := by
  unfold exportCell at he
  split at he
  · simp only at he
    split at he
    · split at he
      · split at he
        · simp only [Option.some.injEq, Prod.mk.injEq] at he
          obtain ⟨rfl, rfl⟩ := he; rfl
        · split at he
          · simp only [Option.some.injEq, Prod.mk.injEq] at he
            obtain ⟨rfl, rfl⟩ := he; rfl
          · simp only [Option.some.injEq, Prod.mk.injEq] at he
            obtain ⟨rfl, rfl⟩ := he; rfl
      · simp at he
    · simp at he
  · split at he
    · simp only [Option.some.injEq, Prod.mk.injEq] at he
      obtain ⟨rfl, rfl⟩ := he
      exact cellish_of_isCell hc
    · simp at he

theorem exportCells_isCell {T : Nat → V} {O : Nat → Obj} : ∀ {cs cs' : List V} {rs : List Nat}, exportCells n ⟨T, O⟩ cs = some (cs', rs) → cs.all V.isCell = true →
    cs'.all V.cellish = true
  | [], cs', rs, he, _ => by simp [exportCells] at he; obtain ⟨rfl, rfl⟩ := he; rfl
  | c :: cs, cs', rs, he, hc => by
    simp only [List.all_cons, Bool.and_eq_true] at hc
    simp only [exportCells] at he
    split at he
    · rename_i c1 r1 cs1 rs1 h1 h2
      simp only [Option.some.injEq, Prod.mk.injEq] at he
      obtain ⟨rfl, rfl⟩ := he
      have i1 := exportCell_isCell h1 hc.1
      have i2 := exportCells_isCell h2 hc.2
      rw [List.all_cons, i2, Bool.and_true]
      exact i1
    · simp at he

theorem Exps.pures {cs : List V} {rs : List Nat} {vals : List Value} (h : Exps Y μ n cs rs vals) (hp : V.arePure cs = true) : VRels Y μ cs vals ∧ rs = [] := by
  induction h with
  | nil => simp [VRels]
  | cons h hs ih =>
    simp only [V.arePure, Bool.and_eq_true] at hp
    obtain ⟨i1, i2⟩ := ih hp.2
    cases h with
    | pure hp' hv => simp only [VRels]; exact ⟨⟨hv, i1⟩, by simpa using i2⟩
    | sl => simp [V.isPure] at hp
    | own => simp [V.isPure] at hp

theorem exportV_sound (ho : Objs Y μ) {T : Nat → V} {v v' : V} {rs : List Nat} {val : Value} (h : VRel Y μ v val) (he : exportV n ⟨T, μ.O⟩ v = some (v', rs)) : ExpV Y μ n v' rs val := by
  unfold exportV at he
  split at he
  · rename_i hp
    simp only [Option.some.injEq, Prod.mk.injEq] at he
    obtain ⟨rfl, rfl⟩ := he
    exact .cell (.pure hp h)
  · split at he
    · simp only [VRel] at h
      obtain ⟨h1, vs, rfl, h2⟩ := h
      split at he
      · rename_i cs' rs' hcs
        simp only [Option.some.injEq, Prod.mk.injEq] at he
        obtain ⟨rfl, rfl⟩ := he
        exact .agg (exportCells_isCell hcs h1) (exportCells_sound ho h2 hcs)
      · simp at he
    · simp only [VRel] at h
      obtain ⟨F, cv, rfl, h1, h2⟩ := h
      split at he
      · rename_i cs' rs' hcs
        split at he
        · rename_i hp
          simp only [Option.some.injEq, Prod.mk.injEq] at he
          obtain ⟨rfl, rfl⟩ := he
          obtain ⟨k1, k2⟩ := (exportCells_sound ho h2 hcs).pures hp
          subst k2
          refine .cell (.pure (by simpa [V.isPure] using hp) ?_)
          simp only [VRel]
          exact ⟨F, cv, rfl, h1, k1⟩
        · simp at he
      · simp at he
    · exact .cell (exportCell_sound ho h he)

theorem exportVs_sound (ho : Objs Y μ) {T : Nat → V} : ∀ {cs cs' : List V} {rs : List Nat} {vals : List Value}, VRels Y μ cs vals → exportVs n ⟨T, μ.O⟩ cs = some (cs', rs) → ExpVs Y μ n cs' rs vals
  | [], cs', rs, [], _, he => by simp [exportVs] at he; obtain ⟨rfl, rfl⟩ := he; exact .nil
  | [], _, _, _ :: _, h, _ => by simp [VRels] at h
  | _ :: _, _, _, [], h, _ => by simp [VRels] at h
  | c :: cs, cs', rs, v :: vs, h, he => by
    simp only [VRels] at h
    simp only [exportVs] at he
    split at he
    · rename_i c1 r1 cs1 rs1 h1 h2
      simp only [Option.some.injEq, Prod.mk.injEq] at he
      obtain ⟨rfl, rfl⟩ := he
      exact .cons (exportV_sound ho h.1 h1) (exportVs_sound ho h.2 h2)
    · simp at he

end
end Go.AM
