/-
  Texts of the proof, joined by program: PTopA. Own work.
-/
import Derived.Test.YtjmcpijpclfakaaLb
import Derived.Test.YtjmcpijpclfakaaHd
import Derived.Test.YtjmcpijpclfakaaC
set_option linter.unusedSimpArgs false
set_option linter.unusedVariables false
set_option maxRecDepth 20000
namespace Go.AM
theorem err_ok {e : Ex} (h : e.err = 0) : e.size ≤ 60 ∧ e.typ ≠ 0 := by
  unfold Ex.err at h
  split at h
  · omega
  · split at h
    · omega
    · exact ⟨by omega, by assumption⟩
def Ex.res (K : Int → Bd) (e : Ex) : Ex := if e.err = 0 then e.sim K else e.norm
def Ex.rng (K : Int → Bd) (e : Ex) : V := if e.err = 0 ∧ e.typ ≠ 3 then .tuple [vi (e.bd K).lo, vi (e.bd K).hi, .bool true] else .tuple [vi 0, vi 0, .bool false]
theorem norm_imp (e : Ex) (r : Nat) (k : V → Act2) : importRes2 false r [] e.norm.ov k = k e.norm.v := by
  obtain ⟨a, b, c, d, e', f, ⟨h1, h2⟩ | ⟨ys, _, h1, h2⟩⟩ := e.oform
  · rw [h1, h2]; rfl
  · rw [h1, h2]; rfl
set_option maxHeartbeats 1000000 in
theorem pexpr_ev {l : List Kno} {sv : V} (hl : KFit l) (hs : IsS 4 (l.map Kno.v) sv) (e : Ex) (he : e.size < 1000000) (hf : e.Fit) : Ev E 320 [e.v, sv] ⟨(e.res (factB l)).v, []⟩ := by
  have hch := pcheck_ev e he hf
  have hcp := pcopy_ev _ e (Nat.le_refl _) he
  have hga := gatherA_ev hl hs
  have hmp := esOf_mp (factB l) 9
  have hm1 : modesOf E 338 = [] := rfl
  have hm2 : modesOf E 343 = [] := rfl
  have hm3 : modesOf E 344 = [] := rfl
  have hm4 : modesOf E 339 = [] := rfl
  obtain ⟨a, b, c, d, e', f, L, hv, hp⟩ := e.form3
  have hpb : V.arePure [.agg [vi a, vi b, vi c, vi d, .bool e', .str f, L]] = true := by simp only [V.arePure, hp]; rfl
  have hsv := hs.sv
  by_cases her : e.err = 0
  · obtain ⟨r, hsim, hr⟩ := sim_ev hl _ e (Nat.le_refl _) (err_ok her).1 hf (err_ok her).2
    have himp := fun rr k => hr.imp rr k
    have hR : e.res (factB l) = e.sim (factB l) := by simp [Ex.res, her]
    rw [hR]
    obtain ⟨a8, b8, c8, d8, e8, f8, M8, hv8, hM8⟩ := (e.sim (factB l)).form
    rw [hv8] at himp ⊢
    rw [hv] at hch hsim ⊢
    rw [her] at hch
    generalize esOf (factB l) 9 = es at *
    clear hs
    rcases hM8 with rfl | ⟨us, rfl⟩ <;> rcases hsv with rfl | ⟨ks, rfl⟩
    all_goals
      refine Ev.of_s' E_320 (X_320 _) rfl ?_
      (conv => whnf); repeat' ((first | refine sAct_fn hm1 hpb hch rfl ?_ | refine sAct_fn hm4 rfl hga hmp ?_ | refine sAct_fnI hm3 (apure2 hmp hp) hsim himp ?_ | intro g | refine st ?_ | (first | refine b1 ?_ ?_ | refine b2 ?_ ?_ | refine Br.mk ?_ ?_) <;> intro hc | exact rfl) <;> conv => whnf)
  · have hR : e.res (factB l) = e.norm := by simp [Ex.res, her]
    have himp := fun rr k => norm_imp e rr k
    rw [hR]
    obtain ⟨a8, b8, c8, d8, e8, f8, M8, hv8, hM8⟩ := e.norm.form
    rw [hv8] at himp ⊢
    rw [hv] at hch hcp ⊢
    clear hs
    rcases hM8 with rfl | ⟨us, rfl⟩ <;> rcases hsv with rfl | ⟨ks, rfl⟩
    all_goals
      refine Ev.of_s' E_320 (X_320 _) rfl ?_
      (conv => whnf); repeat' ((first | refine sAct_fn hm1 hpb hch rfl ?_ | refine sAct_fnI hm2 hpb hcp himp ?_ | intro g | refine st ?_ | (first | refine b1 ?_ ?_ | refine b2 ?_ ?_ | refine Br.mk ?_ ?_) <;> intro hc | exact rfl) <;> conv => whnf)
set_option maxHeartbeats 1000000 in
theorem prange_ev {l : List Kno} {sv : V} (hl : KFit l) (hs : IsS 4 (l.map Kno.v) sv) (e : Ex) (he : e.size < 1000000) (hf : e.Fit) : Ev E 317 [e.v, sv] ⟨e.rng (factB l), []⟩ := by
  have hch := pcheck_ev e he hf
  have hga := gatherA_ev hl hs
  have hmp := esOf_mp (factB l) 9
  have hm1 : modesOf E 338 = [] := rfl
  have hm3 : modesOf E 340 = [] := rfl
  have hm4 : modesOf E 339 = [] := rfl
  obtain ⟨a, b, c, d, e', f, L, hv, hp⟩ := e.form3
  have hpb : V.arePure [.agg [vi a, vi b, vi c, vi d, .bool e', .str f, L]] = true := by simp only [V.arePure, hp]; rfl
  have hsv := hs.sv
  unfold Ex.rng
  by_cases her : e.err = 0
  · have hty := ty_eq (err_ok her).1
    rw [hty, her] at hch
    by_cases h3 : e.typ = 3
    · rw [if_neg (by simp [h3])]
      rw [h3] at hch
      rw [hv] at hch ⊢
      clear hs
      rcases hsv with rfl | ⟨ks, rfl⟩
      all_goals
        refine Ev.of_s' E_317 (X_317 _) rfl ?_
        (conv => whnf); repeat' ((first | refine sAct_fn hm1 hpb hch rfl ?_ | intro g | refine st ?_ | (first | refine b1 ?_ ?_ | refine b2 ?_ ?_ | refine Br.mk ?_ ?_) <;> intro hc | exact rfl) <;> conv => whnf)
    · rw [if_pos ⟨her, h3⟩]
      have hof := of_ev (factOk hl) _ e (Nat.le_refl _) (by have := (err_ok her).1; omega) (err_ok her).2
      rw [hv] at hch hof ⊢
      generalize esOf (factB l) 9 = es at *
      generalize e.bd (factB l) = bx at *
      clear hs
      rcases hsv with rfl | ⟨ks, rfl⟩
      all_goals
        refine Ev.of_s' E_317 (X_317 _) rfl ?_
        (conv => whnf); repeat' ((first | refine sAct_fn hm1 hpb hch rfl ?_ | refine sAct_fn hm4 rfl hga hmp ?_ | refine sAct_fn hm3 (apure2 hmp hp) hof (Bd.pure _) ?_ | intro g | refine st ?_ | (first | refine b1 ?_ ?_ | refine b2 ?_ ?_ | refine Br.mk ?_ ?_) <;> intro hc | exact rfl) <;> conv => whnf)
  · rw [if_neg (by simp [her])]
    rw [hv] at hch ⊢
    clear hs
    rcases hsv with rfl | ⟨ks, rfl⟩
    all_goals
      refine Ev.of_s' E_317 (X_317 _) rfl ?_
      (conv => whnf); repeat' ((first | refine sAct_fn hm1 hpb hch rfl ?_ | intro g | refine st ?_ | (first | refine b1 ?_ ?_ | refine b2 ?_ ?_ | refine Br.mk ?_ ?_) <;> intro hc | exact rfl) <;> conv => whnf)
end Go.AM
