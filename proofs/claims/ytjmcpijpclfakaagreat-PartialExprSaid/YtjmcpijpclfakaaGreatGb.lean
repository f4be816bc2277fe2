/-
  Texts of the proof, joined by program: PBdC. Own work.
-/
import Derived.Test.YtjmcpijpclfakaaGreatGa
set_option linter.unusedSimpArgs false
set_option linter.unusedVariables false
set_option maxRecDepth 20000
namespace Go.AM
def eqB (a b : Bd) : Bd :=
  if a.text then (if a.some && b.some then (if a.ws.any (fun s => decide (s ∈ b.ws)) then (if a.ws.length = 1 ∧ b.ws.length = 1 then nb 1 1 else nb 0 1) else nb 0 0) else nb 0 1)
  else if a.hi < b.lo ∨ b.hi < a.lo then nb 0 0 else if a.lo = a.hi ∧ b.lo = b.hi then nb 1 1 else nb 0 1
theorem inw_ev (b : Bd) (s : Str) (hlen : b.ws.length < 4611686018427387904) : Ev E 427 [.str s, .eptr b.v 0] ⟨.bool (decide (s ∈ b.ws)), []⟩ := by
  have h := cont_ev (slS_is b.nl b.ws) s hlen
  have hb := slS_pure b.nl b.ws
  simp only [Bd.v]
  generalize slS b.nl b.ws = B at *
  have hm2 : modesOf E 349 = [] := rfl
  have hp : V.arePure [B, .str s] = true := by simp [V.arePure, V.isPure, hb]
  refine Ev.of_s' E_427 (X_427 _) rfl ?_
  (conv => whnf); repeat' ((first | intro g | refine sAct_fn (by assumption) (by first | assumption | rfl | (simp only [V.arePure, V.isPure, Bool.and_self, Bool.true_and, Bool.and_true, *])) (h) rfl ?_ | refine st ?_ | (first | refine b1 ?_ ?_ | refine b2 ?_ ?_ | refine Br.mk ?_ ?_) <;> intro hc | exact rfl) <;> conv => whnf)
theorem res_eq {r R : Bd} (h : r = R) : (Res.mk r.v []) = ⟨.agg [vi R.lo, vi R.hi, slS R.nl R.ws, .bool R.some, .bool R.text], []⟩ := by rw [h]; rfl
set_option maxHeartbeats 1000000 in
theorem equals_ev (a b : Bd) (la : a.ws.length < 1000000) (lb : b.ws.length < 1000000) : Ev E 410 [a.v, b.v] ⟨(eqB a b).v, []⟩ := by
  obtain ⟨lo, hi, nl, ws, so, tx⟩ := a
  obtain ⟨lo', hi', nl', ws', so', tx'⟩ := b
  have hc := pcont_str (slS_is nl ws) (g := 427) (caps := [.eptr (Bd.mk lo' hi' nl' ws' so' tx').v 0]) (by simp [V.arePure, V.isPure, Bd.pure]) (by dsimp only at la; omega) (p := fun s => decide (s ∈ ws')) (fun x _ => inw_ev ⟨lo', hi', nl', ws', so', tx'⟩ x (by dsimp only at lb ⊢; omega)) rfl
  have hs1 := single_ev ⟨lo, hi, nl, ws, so, tx⟩
  have hs2 := single_ev ⟨lo', hi', nl', ws', so', tx'⟩
  unfold eqB
  dsimp only at la lb ⊢
  cases tx
  · rw [if_neg (by simp)]
    clear hc
    have ha := slS_pure nl ws
    have hb := slS_pure nl' ws'
    generalize hr : (if hi < lo' ∨ hi' < lo then nb 0 0 else if lo = hi ∧ lo' = hi' then nb 1 1 else nb 0 1) = R
    simp only [Bd.v] at hs1 hs2 ⊢
    generalize slS nl ws = A at *
    generalize slS nl' ws' = B at *
    have hm2 : modesOf E 416 = [] := rfl
    have hp1 : V.arePure [.agg [vi lo, vi hi, A, .bool so, .bool false]] = true := by simp [V.arePure, V.isPure, ha]
    have hp2 : V.arePure [.agg [vi lo', vi hi', B, .bool so', .bool tx']] = true := by simp [V.arePure, V.isPure, hb]
    refine Ev.of_s' E_410 (X_410 _) rfl ?_
    (conv => whnf); repeat' ((first | intro g | refine sAct_fn (by assumption) (by first | assumption | rfl | (simp only [V.arePure, V.isPure, Bool.and_self, Bool.true_and, Bool.and_true, *])) (hs1) rfl ?_ | refine sAct_fn (by assumption) (by first | assumption | rfl | (simp only [V.arePure, V.isPure, Bool.and_self, Bool.true_and, Bool.and_true, *])) (hs2) rfl ?_ | refine CallS.mk _ (yes_ev) ?_ | refine CallS.mk _ (no_ev) ?_ | refine CallS.mk _ (maybe_ev) ?_ | refine st ?_ | (first | refine b1 ?_ ?_ | refine b2 ?_ ?_ | refine Br.mk ?_ ?_) <;> intro hc | exact rfl) <;> conv => whnf)
    all_goals (refine res_eq ?_; rw [← hr]; clear hr; repeat' split)
    all_goals first | rfl | (exfalso; omega)
  · rw [if_pos rfl]
    generalize hr : (if (so && so') = true then (if (ws.any fun s => decide (s ∈ ws')) = true then (if ws.length = 1 ∧ ws'.length = 1 then nb 1 1 else nb 0 1) else nb 0 0) else nb 0 1) = R
    cases so
    · subst hr
      simp only [Bd.v, Bool.false_and]
      generalize slS nl ws = A at *
      generalize slS nl' ws' = B at *
      refine Ev.of_s' E_410 (X_410 _) rfl ?_
      (conv => whnf); repeat' ((first | intro g | refine CallS.mk _ (maybe_ev) ?_ | refine st ?_ | (first | refine b1 ?_ ?_ | refine b2 ?_ ?_ | refine Br.mk ?_ ?_) <;> intro hc | exact rfl) <;> conv => whnf)
    cases so'
    · subst hr
      simp only [Bd.v, Bool.and_false]
      generalize slS nl ws = A at *
      generalize slS nl' ws' = B at *
      refine Ev.of_s' E_410 (X_410 _) rfl ?_
      (conv => whnf); repeat' ((first | intro g | refine CallS.mk _ (maybe_ev) ?_ | refine st ?_ | (first | refine b1 ?_ ?_ | refine b2 ?_ ?_ | refine Br.mk ?_ ?_) <;> intro hc | exact rfl) <;> conv => whnf)
    have lm : (ws.map V.str).length = ws.length := List.length_map ..
    have lm' : (ws'.map V.str).length = ws'.length := List.length_map ..
    simp only [Bd.v] at hc ⊢
    clear hs1 hs2
    rcases slS_form nl ws with ⟨e, e2⟩ | e <;> rcases slS_form nl' ws' with ⟨e', e2'⟩ | e' <;> rw [e, e'] at hc ⊢
    all_goals
      refine Ev.of_s' E_410 (X_410 _) rfl ?_
      (conv => whnf); repeat' ((first | intro g | refine CallS.mk _ (hc) ?_ | refine CallS.mk _ (yes_ev) ?_ | refine CallS.mk _ (no_ev) ?_ | refine CallS.mk _ (maybe_ev) ?_ | refine st ?_ | (first | refine b1 ?_ ?_ | refine b2 ?_ ?_ | refine Br.mk ?_ ?_) <;> intro hc | exact rfl) <;> conv => whnf)
      all_goals (refine res_eq ?_; rw [← hr]; clear hr; simp_all)
      all_goals omega
end Go.AM
