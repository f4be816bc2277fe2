/-
  Regions and code of the abstract machine against the model's. Own work.
-/
import Derived.Test.YtnjbmkcbhnkggaaAmDisp
import Derived.Scope
import Derived.LoopN
set_option linter.unusedSimpArgs false
namespace Go.AM
open Go Go.RowKit

/-- what an operation of the machine's says of the model's -/
def OpHyp (X : Ctx) (E : Env) (C : Oracle) : Prop := ∀ (h : Hints) (dst : Nat) (o : Oper) (aop : AOp) (a : Go.Act) (T : Nat → V) (μ : Mu) (v : V) (σ' : St), Rel X T a μ → trOp X h dst o.op = some aop →
  (opAct E aop).run C ⟨T, μ.O⟩ = some (v, σ') → σ'.T = T ∧ ∀ (next : Go.Act → World → Prop) (Q : Go.Exit → Go.Act → World → Prop),
    (∀ val w' φ', VRel X ⟨w', φ', σ'.O⟩ v val → Le μ ⟨w', φ', σ'.O⟩ → Objs X ⟨w', φ', σ'.O⟩ → next (a.put o.dst val) w') → o.wp X.P a μ.w next Q

structure Sim (X : Ctx) (μ0 : Mu) (n : Nat) (σ : St) (a : Go.Act) (w : World) : Prop where
  defers : a.defers = []
  size : a.tmps.size = n
  rel : ∃ φ, Rel X σ.T a ⟨w, φ, σ.O⟩ ∧ Le μ0 ⟨w, φ, σ.O⟩

section
variable {X : Ctx} {E : Env} {C : Oracle} {μ0 : Mu} {n : Nat}

theorem put_rel {T : Nat → V} {a : Go.Act} {μ μ' : Mu} {dst : Option Nat} {v : V} {val : Value} (hr : Rel X T a μ) (le : Le μ μ') (ho : Objs X μ') (hv : VRel X μ' v val) (hd : dst.all (· < a.tmps.size) = true) (O : Nat → Obj) :
    Rel X (St.put ⟨T, O⟩ dst v).T (a.put dst val) μ' := by
  refine ⟨fun t => ?_, ho⟩
  cases dst with
  | none => exact VRel.mono le (hr.tmps t)
  | some d =>
    simp at hd
    simp only [St.put, Go.Act.put, upd]
    split
    · rename_i e
      subst e
      have : (a.tmps.setIfInBounds t val).getD t undef = val := by simp [hd]
      rw [this]; exact hv
    · rename_i hne
      have : (a.tmps.setIfInBounds d val).getD t undef = a.tmps.getD t undef := by
        simp [Array.getElem?_setIfInBounds_ne (fun e => hne e.symm)]
      rw [this]; exact VRel.mono le (hr.tmps t)

theorem put_size (a : Go.Act) (dst : Option Nat) (v : Value) : (a.put dst v).tmps.size = a.tmps.size := by cases dst <;> simp [Go.Act.put]
theorem put_defers (a : Go.Act) (dst : Option Nat) (v : Value) : (a.put dst v).defers = a.defers := by cases dst <;> simp [Go.Act.put]

theorem undef_rel {μ : Mu} : VRel X μ undefV undef := by simp only [undefV, VRel]; exact ⟨#[], rfl, by simp [VRels]⟩

theorem oper_sound (H : OpHyp X E C) {h : Hints} {ops : Array Oper} {i : Nat} {o : Oper} {ao : AOper} {σ σ' : St} {a : Go.Act} {w : World} {K : Go.Act → World → Prop} {Q : Go.Exit → Go.Act → World → Prop}
    (ho : ops[i]? = some o) (htr : trOper X h ops o = some ao) (hn : h.n = n) (hs : Sim X μ0 n σ a w) (hrun : runOp E C ao σ = some σ') (hK : ∀ a' w', Sim X μ0 n σ' a' w' → K a' w') :
    wpOp X.P ops Q i K a w := by
  obtain ⟨hdef, hsz, φ, hr, hle⟩ := hs
  unfold trOper at htr
  simp only at htr
  split at htr
  · rename_i g hg hdst
    injection htr with htr
    subst htr
    have hd : o.dst.all (· < a.tmps.size) = true := by rw [hsz, ← hn]; exact hdst
    simp only [runOp] at hrun
    split at hrun
    · rename_i v σ1 hact
      injection hrun with hrun
      subst hrun
      -- what is done where the operation runs
      have runs : (opAct E ((trOp X h (o.dst.getD 0) o.op).getD .bad)).run C σ = some (v, σ1) → o.wp X.P a w K Q := fun hop => by
        cases htop : trOp X h (o.dst.getD 0) o.op with
        | none => rw [htop] at hop; exact absurd hop run_bad
        | some aop =>
          rw [htop] at hop
          obtain ⟨hT, hwp⟩ := H h _ o aop a σ.T ⟨w, φ, σ.O⟩ v σ1 hr htop hop
          refine hwp K Q fun val w' φ' hv le hobj => hK _ _ ⟨by rw [put_defers]; exact hdef, by rw [put_size]; exact hsz, φ', ?_, ?_⟩
          · have := put_rel hr le hobj hv hd σ1.O
            rw [← hT] at this
            have e : (σ1.put o.dst v).O = σ1.O := by cases o.dst <;> rfl
            rw [e]; exact this
          · have e : (σ1.put o.dst v).O = σ1.O := by cases o.dst <;> rfl
            rw [e]; exact hle.trans le
      -- what is done where it does not
      have skips : v = undefV → σ1 = σ → K (a.put o.dst undef) w := fun hv hσ => by
        subst hv; subst hσ
        refine hK _ _ ⟨by rw [put_defers]; exact hdef, by rw [put_size]; exact hsz, φ, ?_, ?_⟩
        · have := put_rel hr (Le.refl _) hr.objs undef_rel hd σ1.O
          have e : (σ1.put o.dst undefV).O = σ1.O := by cases o.dst <;> rfl
          rw [e]; exact this
        · have e : (σ1.put o.dst undefV).O = σ1.O := by cases o.dst <;> rfl
          rw [e]; exact hle
      simp only [wpOp, ho]
      cases hgd : o.guard with
      | none =>
        rw [hgd] at hg
        injection hg with hg
        subst hg
        rw [if_pos (by simp [Region.wanted, hgd])]
        exact .inl (runs (by simpa [operAct] using hact))
      | some gw =>
        obtain ⟨j, want⟩ := gw
        rw [hgd] at hg
        simp only at hg
        split at hg
        · rename_i d hdj
          injection hg with hg
          subst hg
          simp only [operAct, Act.run] at hact
          have hv := hr.tmps d
          split at hact
          · rename_i b hb
            rw [hb] at hv
            simp only [VRel] at hv
            have hlt : d < a.tmps.size := by
              rcases Nat.lt_or_ge d a.tmps.size with hl | hl
              · exact hl
              · simp [Array.getElem?_eq_none hl, undef] at hv
            have hgd2 : a.tmps[d]? = some (.bool b) := by
              rw [Array.getElem?_eq_getElem hlt]
              simp [Array.getElem?_eq_getElem hlt] at hv
              rw [hv]
            have hy : yielded ops a.tmps j = some b := by simp [yielded, hdj, hgd2]
            split at hact
            · rename_i hbw
              rw [if_pos (by simp [Region.wanted, hgd, hy, hbw])]
              exact .inl (runs hact)
            · rename_i hbw
              rw [if_neg (by simp [Region.wanted, hgd, hy, hbw])]
              obtain ⟨e1, e2⟩ := run_done hact
              exact skips e1.symm e2
          · rename_i hb
            rw [hb] at hv
            simp only [VRel] at hv
            obtain ⟨vs, hvs, hv0⟩ := hv
            have hy : yielded ops a.tmps j = none := by
              simp only [yielded, hdj, Option.bind_some]
              cases hq : a.tmps[d]? with
              | none => rfl
              | some x =>
                have : x = .tuple vs := by simpa [hq] using hvs
                rw [this]
            rw [if_neg (by simp [Region.wanted, hgd, hy])]
            obtain ⟨e1, e2⟩ := run_done hact
            exact skips e1.symm e2
          · exact absurd hact run_fail
        · simp at hg
    · simp at hrun
  · simp at htr

/-! ## a region in the order of the text -/
theorem trOpers_get {h : Hints} {ops : Array Oper} : ∀ {l : List Oper} {as : List AOper}, trOpers X h ops l = some as → as.length = l.length ∧ ∀ (i : Nat) o, l[i]? = some o → ∃ ao, as[i]? = some ao ∧ trOper X h ops o = some ao
  | [], as, h' => by simp [trOpers] at h'; subst h'; simp
  | o :: l, as, h' => by
    simp only [trOpers] at h'
    split at h'
    · rename_i ao as' h1 h2
      injection h' with h'; subst h'
      obtain ⟨k1, k2⟩ := trOpers_get h2
      refine ⟨by simp [k1], fun i o' hi => ?_⟩
      cases i with
      | zero => simp at hi; subst hi; exact ⟨ao, by simp, h1⟩
      | succ i => simpa using k2 i o' (by simpa using hi)
    · simp at h'

theorem runOp_pre {ao : AOper} {σ : St} {p : List Nat} : runOp E C { ao with pre := p } σ = runOp E C ao σ := rfl

theorem region_sound (H : OpHyp X E C) {h : Hints} {ops : Array Oper} {as : List AOper} (hn : h.n = n) (htr : trOpers X h ops ops.toList = some as) {Q : Go.Exit → Go.Act → World → Prop} :
    ∀ (m k : Nat), k + m = ops.size → ∀ {σ σ' : St} {a : Go.Act} {w : World}, Sim X μ0 n σ a w → runOps E C ((as.drop k).map fun o => { o with pre := [] }) σ = some σ' →
      (∀ a' w', Sim X μ0 n σ' a' w' → Q .normal a' w') → wpOps X.P ops Q (List.range' k m) a w
  | 0, k, hk, σ, σ', a, w, hs, hrun, hQ => by
    obtain ⟨hl, _⟩ := trOpers_get htr
    have : as.drop k = [] := by simp at hl; simp; omega
    rw [this] at hrun
    simp [runOps] at hrun
    subst hrun
    simpa [wpOps] using hQ a w hs
  | m + 1, k, hk, σ, σ', a, w, hs, hrun, hQ => by
    obtain ⟨hl, hget⟩ := trOpers_get htr
    have hkl : k < ops.size := by omega
    obtain ⟨ao, hao, htro⟩ := hget k ops[k] (by simp [hkl])
    have hka : k < as.length := by simp at hl; omega
    have hd : as.drop k = ao :: as.drop (k + 1) := by
      rw [List.drop_eq_getElem_cons hka]
      rw [List.getElem?_eq_getElem hka] at hao
      injection hao with hao; rw [hao]
    rw [hd] at hrun
    simp only [List.map_cons, runOps, runOp_pre] at hrun
    split at hrun
    · rename_i σ1 h1
      rw [List.range'_succ, wpOps_cons]
      refine oper_sound H (o := ops[k]) (by simp [hkl]) htro hn hs h1 fun a' w' hs' => ?_
      exact region_sound H hn htr m (k + 1) (by omega) hs' hrun hQ
    · simp at hrun

end
end Go.AM
