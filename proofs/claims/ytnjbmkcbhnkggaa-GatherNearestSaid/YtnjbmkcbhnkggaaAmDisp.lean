/-
  Each translated operation but the call against the model's. Own work.
-/
import Derived.Test.YtnjbmkcbhnkggaaAmOps9
set_option linter.unusedSimpArgs false
namespace Go.AM
open Go Go.RowKit

def AOp.isCall : AOp → Bool
  | .call .. => true
  | _ => false

section
variable {X : Ctx} {E : Env} {C : Oracle} {o : Oper} {a : Go.Act} {T : Nat → V} {μ : Mu} {v : V} {σ' : St}

theorem run_bad {p : V × St} {σ : St} : (opAct E .bad).run C σ ≠ some p := by simp [opAct, Act.run]

theorem call_sound {h : Hints} {dst : Nat} {c : Call} {aop : AOp} (hr : Rel X T a μ) (ho : o.op = .call c) (htr : trCall X h dst c = some aop) (hnc : aop.isCall = false)
    (hrun : (opAct E aop).run C ⟨T, μ.O⟩ = some (v, σ')) : σ'.T = T ∧ Done X o a μ σ'.O v := by
  unfold trCall at htr
  split at htr
  · split at htr
    · injection htr with htr; subst htr; simp [AOp.isCall] at hnc
    · simp at htr
  · simp at htr
  · rename_i b hc
    have harr : ∀ {α : Type} (l : Array α) (m : List α), l.toList = m → l = m.toArray := fun l m e => by rw [← e]
    split at htr
    · rename_i x t h1 h2
      have e1 := harr _ _ h1; have e2 := harr _ _ h2
      split at htr
      · rename_i x' e hx hd
        injection htr with htr; subst htr
        exact op_len hr ho hc e1 e2 hd hx hrun
      · rename_i x' hx hd
        injection htr with htr; subst htr
        exact op_lenStr hr ho hc e1 e2 hd hx hrun
      · rename_i x' n e hx hd
        injection htr with htr; subst htr
        exact op_lenArr hr ho hc e1 e2 hd hrun
      · simp at htr
    · rename_i xs _
      simp only [Option.map_eq_some_iff] at htr
      obtain ⟨as, h1, rfl⟩ := htr
      exact op_min hr ho hc h1 hrun
    · rename_i xs _
      simp only [Option.map_eq_some_iff] at htr
      obtain ⟨as, h1, rfl⟩ := htr
      exact op_max hr ho hc h1 hrun
    · rename_i s x t t' h1 h2
      have e1 := harr _ _ h1; have e2 := harr _ _ h2
      split at htr
      · rename_i s' x' e d hs hx hd hd2
        split at htr
        · rename_i sz i z e' hn hi hz
          split at htr <;> simp at htr
          rename_i hb
          subst htr
          exact op_append hr ho hc e1 e2 hd hd2 (by simp) hn hi hz hb hs hx hrun
        · rename_i sz i z hn hi hz
          split at htr <;> simp at htr
          rename_i hb
          subst htr
          exact op_append hr ho hc e1 e2 hd hd2 (by simp) hn hi hz hb hs hx hrun
        · simp at htr
      · simp at htr
    · rename_i d s t t' h1 h2
      have e1 := harr _ _ h1; have e2 := harr _ _ h2
      split at htr
      · rename_i d' s' e hd hs ht
        simp only [Option.map_eq_some_iff] at htr
        obtain ⟨sz, hn, rfl⟩ := htr
        exact op_copy hr ho hc e1 e2 ht hn hd hs hrun
      · simp at htr
    · rename_i x t h1 h2
      have e1 := harr _ _ h1; have e2 := harr _ _ h2
      split at htr
      · rename_i x' e hx hd
        split at htr
        · rename_i sz z hn hz
          injection htr with htr; subst htr
          exact op_clear hr ho hc e1 e2 hd hz hx hrun
        · simp at htr
      · simp at htr
    · simp at htr

theorem op_sound (hinj : ∀ t1 t2 k, X.tnum t1 = some k → X.tnum t2 = some k → t1 = t2) {h : Hints} {dst : Nat} {aop : AOp} (hr : Rel X T a μ) (htr : trOp X h dst o.op = some aop) (hnc : aop.isCall = false)
    (hrun : (opAct E aop).run C ⟨T, μ.O⟩ = some (v, σ')) : σ'.T = T ∧ Done X o a μ σ'.O v := by
  cases hop : o.op <;> simp only [trOp, hop] at htr <;> try (simp at htr; done)
  case move x =>
    simp only [Option.map_eq_some_iff] at htr
    obtain ⟨y, h1, rfl⟩ := htr
    exact op_move hr (.inl hop) h1 hrun
  case assign x =>
    simp only [Option.map_eq_some_iff] at htr
    obtain ⟨y, h1, rfl⟩ := htr
    exact op_move hr (.inr hop) h1 hrun
  case pick c p q =>
    split at htr
    · rename_i c' p' q' h1 h2 h3
      injection htr with htr; subst htr
      exact op_pick hr hop h1 h2 h3 hrun
    · simp at htr
  case alloc t =>
    split at htr
    · rename_i sz z h1 h2
      injection htr with htr; subst htr
      exact op_alloc hr hop h2 hrun
    · simp at htr
  case box t x =>
    split at htr
    · rename_i sz y h1 h2
      injection htr with htr; subst htr
      exact op_box hr hop h2 hrun
    · simp at htr
  case build t ps =>
    split at htr
    · rename_i z fs h1 h2
      split at htr
      · simp at htr
      · rename_i hall
        simp only [Option.map_eq_some_iff] at htr
        obtain ⟨as, h3, rfl⟩ := htr
        exact op_buildS hr hop h1 h2 (by revert hall; cases fs.toList.all (fun f => (sizeT X f.type).isSome) <;> simp) h3 hrun
    · rename_i z n e h1 h2
      split at htr
      · rename_i s hs
        simp only [Option.map_eq_some_iff] at htr
        obtain ⟨as, h3, rfl⟩ := htr
        exact op_buildA hr hop h1 h2 hs h3 hrun
      · simp at htr
    · simp at htr
  case buildSlice t n ps =>
    split at htr
    · rename_i e hd
      split at htr
      · rename_i sz z as h1 h2 h3
        injection htr with htr; subst htr
        exact op_buildSlice hr hop hd h1 h2 h3 hrun
      · simp at htr
    · simp at htr
  case load t x =>
    split at htr
    · rename_i g sz y h1 h2 h3
      injection htr with htr; subst htr
      exact op_load hr hop h3 h1 h2 hrun
    · simp at htr
  case store t x y =>
    split at htr
    · rename_i g sz x' y' h1 h2 h3 h4
      injection htr with htr; subst htr
      exact op_store hr hop h3 h4 h2 hrun
    · simp at htr
  case nilCheck x =>
    simp only [Option.map_eq_some_iff] at htr
    obtain ⟨y, h1, rfl⟩ := htr
    exact op_nilCheck hr hop h1 hrun
  case binOp op t x y t2 =>
    split at htr
    · rename_i x' y' h1 h2
      unfold trBin at htr
      split at htr
      · rename_i heq
        have hopk : op = .eql ∨ op = .neq := by cases op <;> simp [isEqOp] at heq <;> simp
        split at htr
        · rename_i hd
          injection htr with htr; subst htr
          exact op_eqB hr hop hopk hd h1 h2 rfl hrun
        · injection htr with htr; subst htr
          exact op_bin hr hop h1 h2 hrun
        · injection htr with htr; subst htr
          exact op_bin hr hop h1 h2 hrun
        · rename_i fs hd
          split at htr
          · rename_i hg
            simp only [Option.map_eq_some_iff] at htr
            obtain ⟨ks, h3, rfl⟩ := htr
            exact op_eqA hr hop hopk hg h3 ⟨_, hd⟩ h1 h2 rfl hrun
          · simp at htr
        · simp at htr
      · injection htr with htr; subst htr
        exact op_bin hr hop h1 h2 hrun
    · simp at htr
  case unOp op t x =>
    simp only [Option.map_eq_some_iff] at htr
    obtain ⟨y, h1, rfl⟩ := htr
    exact op_un hr hop h1 hrun
  case convert s d x =>
    split at htr
    · rename_i k0 k y h1 h2 h3
      injection htr with htr; subst htr
      exact op_convInt hr hop h1 h2 h3 hrun
    · rename_i k0 y h1 h2 h3
      injection htr with htr; subst htr
      exact op_convIF hr hop h1 h2 h3 hrun
    · rename_i k y h1 h2 h3
      injection htr with htr; subst htr
      exact op_convFI hr hop h1 h2 h3 hrun
    · rename_i y h1 h2 h3
      injection htr with htr; subst htr
      exact op_convStr hr hop h1 h2 h3 hrun
    · simp at htr
  case makeInterface t x =>
    split at htr
    · simp at htr
    · rename_i n y d hne h1 h2 h3
      injection htr with htr; subst htr
      exact op_makeInterface hr hop h1 h2 ⟨_, h3, fun ms e => hne ms e⟩ hrun
    · simp at htr
  case typeAssert x t0 t ok =>
    split at htr
    · simp at htr
    · rename_i n y z d hne h1 h2 h3 h4
      injection htr with htr; subst htr
      exact op_assert hr hop hinj h1 h2 h3 ⟨_, h4, fun ms e => hne ms e⟩ hrun
    · simp at htr
  case makeFunc fn first caps =>
    cases fn <;> simp only at htr <;> try (simp at htr; done)
    split at htr
    · rename_i hf
      split at htr
      · rename_i n cs h1 h2
        injection htr with htr; subst htr
        exact op_makeFunc hr hop hf h1 h2 hrun
      · simp at htr
    · simp at htr
  case makeSlice t l c =>
    split at htr
    · rename_i e hd
      split at htr
      · rename_i sz i z l' c' h1 h2 h3 h4 h5
        injection htr with htr; subst htr
        exact op_makeSlice hr hop hd h1 h2 h3 h4 h5 hrun
      · simp at htr
    · simp at htr
  case slice t x lo hi mx =>
    split at htr
    · rename_i e x' lo' hi' mx' hd h1 h2 h3 h4
      simp only [Option.map_eq_some_iff] at htr
      obtain ⟨sz, hn, rfl⟩ := htr
      exact op_slice hr hop hd hn h1 h2 h3 h4 hrun
    · rename_i x' lo' hi' hd h1 h2 h3 h4
      injection htr with htr; subst htr
      have hmx : mx = none := by
        cases mx with
        | none => rfl
        | some m => simp [trOo] at h4
      subst hmx
      exact op_sliceStr hr hop hd h1 h2 h3 hrun
    · simp at htr
  case fieldAddr s x i =>
    split at htr
    · rename_i fs y hd h1
      split at htr
      · rename_i f hf
        split at htr
        · rename_i n hn
          injection htr with htr; subst htr
          exact op_fieldAddr hr hop h1 hd hf hn hrun
        · simp at htr
      · simp at htr
    · simp at htr
  case field s x i =>
    split at htr
    · rename_i fs y hd h1
      split at htr
      · rename_i f hf
        split at htr
        · rename_i g sz h2 h3
          injection htr with htr; subst htr
          exact op_field hr hop h1 hd hf h2 h3 hrun
        · simp at htr
      · simp at htr
    · simp at htr
  case indexAddr t x i =>
    split at htr
    · rename_i e x' i' hd h1 h2
      simp only [Option.map_eq_some_iff] at htr
      obtain ⟨sz, hn, rfl⟩ := htr
      exact op_indexAddr hr hop hd hn h1 h2 hrun
    · rename_i n e x' i' hd h1 h2
      simp only [Option.map_eq_some_iff] at htr
      obtain ⟨sz, hn, rfl⟩ := htr
      exact op_indexArr hr hop hd hn h1 h2 hrun
    · simp at htr
  case index t x i =>
    split at htr
    · rename_i x' i' hd h1 h2
      injection htr with htr; subst htr
      exact op_indexStr hr hop hd h1 h2 hrun
    · rename_i n e x' i' hd h1 h2
      split at htr
      · rename_i g sz h3 h4
        injection htr with htr; subst htr
        exact op_indexVal hr hop hd h3 h4 h1 h2 hrun
      · simp at htr
    · simp at htr
  case extract x i =>
    simp only [Option.map_eq_some_iff] at htr
    obtain ⟨y, h1, rfl⟩ := htr
    exact op_extract hr hop h1 hrun
  case call c => exact call_sound hr hop htr hnc hrun

end
end Go.AM
