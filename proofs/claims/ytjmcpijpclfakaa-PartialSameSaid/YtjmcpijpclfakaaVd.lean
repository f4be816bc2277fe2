/-
  Texts of the proof, joined by program: PEvB, PSmE. Own work.
-/
import Derived.Test.YtjmcpijpclfakaaVb
import Derived.Test.YtjmcpijpclfakaaVc
import Derived.Test.YtjmcpijpclfakaaKa
import Derived.Test.YtjmcpijpclfakaaF
import Derived.Test.YtjmcpijpclfakaaIa
import Derived.Test.YtjmcpijpclfakaaJa
set_option linter.unusedSimpArgs false
set_option linter.unusedVariables false
set_option maxRecDepth 20000
namespace Go.AM
theorem eval_form (x : Envi) (e : Ex) (h : e.typ ≠ 0) : (e.typ = 1 ∧ ∃ n, e.eval x = ⟨1, n, false, []⟩) ∨ (e.typ = 2 ∧ ∃ b, e.eval x = ⟨2, 0, b, []⟩) ∨ (e.typ = 3 ∧ ∃ s, e.eval x = ⟨3, 0, false, s⟩) := by
  have := eval_in (K := factB []) (x := x) (fact_bn []) (fun v hv => fact_in (l := []) rfl v hv) e.size e (Nat.le_refl _) h
  rcases this with ⟨h1, n, h2, _⟩ | ⟨h1, n, h2, _⟩ | ⟨h1, n, h2, _⟩
  · exact .inl ⟨h1, n, h2⟩
  · exact .inr (.inl ⟨h1, n, h2⟩)
  · exact .inr (.inr ⟨h1, n, h2⟩)
theorem eval_int {x : Envi} {e : Ex} (h : e.typ = 1) : ∃ n, e.eval x = ⟨1, n, false, []⟩ := by
  rcases eval_form x e (by omega) with ⟨_, h1⟩ | ⟨h2, _⟩ | ⟨h2, _⟩
  · exact h1
  · omega
  · omega
theorem eval_bool {x : Envi} {e : Ex} (h : e.typ = 2) : ∃ n, e.eval x = ⟨2, 0, n, []⟩ := by
  rcases eval_form x e (by omega) with ⟨h2, _⟩ | ⟨_, h1⟩ | ⟨h2, _⟩
  · omega
  · exact h1
  · omega
theorem eval_str {x : Envi} {e : Ex} (h : e.typ = 3) : ∃ n, e.eval x = ⟨3, 0, false, n⟩ := by
  rcases eval_form x e (by omega) with ⟨h2, _⟩ | ⟨h2, _⟩ | ⟨_, h1⟩
  · omega
  · omega
  · exact h1
theorem eval_ev (ev : Envi) : ∀ (k : Nat) (e : Ex), e.size ≤ k → e.typ ≠ 0 → e.Fit → Ev E 392 [e.v, ev.v] ⟨vifc (e.eval ev), []⟩
  | 0, e, hk, _, _ => by have := e.size_pos; omega
  | k + 1, .mk op var val nl l, hk, ht, hf => by
    have ih := eval_ev ev k
    have hfm := hf.mem
    simp only [Ex.size] at hk
    rcases typ_cases ht with ⟨rfl, rfl, rfl, hr, hT⟩ | ⟨rfl, rfl, rfl, hv, hT⟩ | ⟨y, rfl, rfl, rfl, rfl, hx, hT⟩ | ⟨y, z, ho, rfl, rfl, rfl, hx, hy, hT3, h6, h45, h7, h8⟩ | ⟨y, z, w, rfl, rfl, rfl, rfl, hx, hy, hz, hT⟩
    · exact pev_c ev val nl hr hf.val
    · exact pev_v ev var nl
    · simp only [Ex.sizes] at hk
      have e1 := ih y (by omega) (by omega) (hfm y (by simp))
      obtain ⟨p, hp⟩ := eval_bool (x := ev) hx
      rw [hp] at e1
      rw [Ex.eval_eq, List.map_cons, List.map_nil, hp]
      exact pev_n e1 nl
    · simp only [Ex.sizes] at hk
      have e1 := ih y (by omega) hx (hfm y (by simp))
      have e2 := ih z (by omega) hy (hfm z (by simp))
      rw [Ex.eval_eq, List.map_cons, List.map_cons, List.map_nil]
      have ho' : op = 4 ∨ op = 5 ∨ op = 6 ∨ op = 7 ∨ op = 8 ∨ op = 9 ∨ op = 10 ∨ op = 11 ∨ op = 12 := by omega
      have num : 8 ≤ op ∨ op = 7 → ∃ n m, y.eval ev = ⟨1, n, false, []⟩ ∧ z.eval ev = ⟨1, m, false, []⟩ := by
        intro h
        have hh : y.typ = 1 ∧ z.typ = 1 := by
          rcases h with h | h
          · have := h8 h; exact ⟨this.1, this.2.1⟩
          · have := h7 h; exact ⟨this.1, this.2.1⟩
        obtain ⟨n, hn⟩ := eval_int (x := ev) hh.1
        obtain ⟨m, hm⟩ := eval_int (x := ev) hh.2
        exact ⟨n, m, hn, hm⟩
      rcases ho' with rfl | rfl | rfl | rfl | rfl | rfl | rfl | rfl | rfl
      · obtain ⟨t1, t2, _⟩ := h45 (.inl rfl)
        obtain ⟨p, hp⟩ := eval_bool (x := ev) t1
        obtain ⟨q, hq⟩ := eval_bool (x := ev) t2
        rw [hp] at e1 ⊢; rw [hq] at e2 ⊢
        exact pev_o4b e1 e2 nl
      · obtain ⟨t1, t2, _⟩ := h45 (.inr rfl)
        obtain ⟨p, hp⟩ := eval_bool (x := ev) t1
        obtain ⟨q, hq⟩ := eval_bool (x := ev) t2
        rw [hp] at e1 ⊢; rw [hq] at e2 ⊢
        exact pev_o5b e1 e2 nl
      · obtain ⟨t1, _⟩ := h6 rfl
        rcases eval_form ev y hx with ⟨t2, p, hp⟩ | ⟨t2, p, hp⟩ | ⟨t2, p, hp⟩
        · obtain ⟨q, hq⟩ := eval_int (x := ev) (e := z) (by omega)
          rw [hp] at e1 ⊢; rw [hq] at e2 ⊢
          have h := pev_o6i e1 e2 nl
          have e : vifc (headVal ev 6 0 zeroVa [⟨1, p, false, []⟩, ⟨1, q, false, []⟩]) = .iface 4 (.bool (p == q)) := by
            have : eqVa ⟨1, p, false, []⟩ ⟨1, q, false, []⟩ = (p == q) := by simp [eqVa]; rfl
            show V.iface 4 (.bool (eqVa ⟨1, p, false, []⟩ ⟨1, q, false, []⟩)) = _
            rw [this]
          rw [e]; exact h
        · obtain ⟨q, hq⟩ := eval_bool (x := ev) (e := z) (by omega)
          rw [hp] at e1 ⊢; rw [hq] at e2 ⊢
          have h := pev_o6b e1 e2 nl
          have e : vifc (headVal ev 6 0 zeroVa [⟨2, 0, p, []⟩, ⟨2, 0, q, []⟩]) = .iface 4 (.bool (p == q)) := by
            have : eqVa ⟨2, 0, p, []⟩ ⟨2, 0, q, []⟩ = (p == q) := by simp [eqVa]
            show V.iface 4 (.bool (eqVa ⟨2, 0, p, []⟩ ⟨2, 0, q, []⟩)) = _
            rw [this]
          rw [e]; exact h
        · obtain ⟨q, hq⟩ := eval_str (x := ev) (e := z) (by omega)
          rw [hp] at e1 ⊢; rw [hq] at e2 ⊢
          have h := pev_o6s e1 e2 nl
          have e : vifc (headVal ev 6 0 zeroVa [⟨3, 0, false, p⟩, ⟨3, 0, false, q⟩]) = .iface 4 (.bool (decide (p = q))) := by
            have : eqVa ⟨3, 0, false, p⟩ ⟨3, 0, false, q⟩ = decide (p = q) := by simp [eqVa]
            show V.iface 4 (.bool (eqVa ⟨3, 0, false, p⟩ ⟨3, 0, false, q⟩)) = _
            rw [this]
          rw [e]; exact h
      · obtain ⟨n, m, hp, hq⟩ := num (.inr rfl)
        rw [hp] at e1 ⊢; rw [hq] at e2 ⊢
        exact pev_o7i e1 e2 nl
      · obtain ⟨n, m, hp, hq⟩ := num (.inl (by decide))
        rw [hp] at e1 ⊢; rw [hq] at e2 ⊢
        exact pev_o8i e1 e2 nl
      · obtain ⟨n, m, hp, hq⟩ := num (.inl (by decide))
        rw [hp] at e1 ⊢; rw [hq] at e2 ⊢
        exact pev_o9i e1 e2 nl
      · obtain ⟨n, m, hp, hq⟩ := num (.inl (by decide))
        rw [hp] at e1 ⊢; rw [hq] at e2 ⊢
        exact pev_o10i e1 e2 nl
      · obtain ⟨n, m, hp, hq⟩ := num (.inl (by decide))
        rw [hp] at e1 ⊢; rw [hq] at e2 ⊢
        exact pev_o11i e1 e2 nl
      · obtain ⟨n, m, hp, hq⟩ := num (.inl (by decide))
        rw [hp] at e1 ⊢; rw [hq] at e2 ⊢
        exact pev_o12i e1 e2 nl
    · simp only [Ex.sizes] at hk
      have e1 := ih y (by omega) (by omega) (hfm y (by simp))
      have e2 := ih z (by omega) hy (hfm z (by simp))
      have e3 := ih w (by omega) (by omega) (hfm w (by simp))
      obtain ⟨p, hp⟩ := eval_bool (x := ev) hx
      rw [Ex.eval_eq, List.map_cons, List.map_cons, List.map_cons, List.map_nil, hp]
      rw [hp] at e1
      rcases eval_form ev z hy with ⟨t2, q, hq⟩ | ⟨t2, q, hq⟩ | ⟨t2, q, hq⟩
      · obtain ⟨r, hr⟩ := eval_int (x := ev) (e := w) (by omega)
        rw [hq] at e2 ⊢; rw [hr] at e3 ⊢
        have h := pev_fi e1 e2 e3 nl
        cases p <;> exact h
      · obtain ⟨r, hr⟩ := eval_bool (x := ev) (e := w) (by omega)
        rw [hq] at e2 ⊢; rw [hr] at e3 ⊢
        have h := pev_fb e1 e2 e3 nl
        cases p <;> exact h
      · obtain ⟨r, hr⟩ := eval_str (x := ev) (e := w) (by omega)
        rw [hq] at e2 ⊢; rw [hr] at e3 ⊢
        have h := pev_fs e1 e2 e3 nl
        cases p <;> exact h
theorem wrapF_ev {v : Va} (h : (∃ n, v = ⟨1, n, false, []⟩) ∨ (∃ b, v = ⟨2, 0, b, []⟩) ∨ (∃ s, v = ⟨3, 0, false, s⟩)) : Ev E 391 [vifc v] ⟨v.v, []⟩ := by
  rcases h with ⟨n, rfl⟩ | ⟨n, rfl⟩ | ⟨n, rfl⟩
  · exact wrapI_ev n
  · exact wrapB_ev n
  · exact wrapS_ev n
theorem evalF_ev (ev : Envi) (e : Ex) (he : e.err = 0) (hf : e.Fit) : Ev E 348 [e.v, ev.v] ⟨.tuple [(e.eval ev).v, vi 0], []⟩ := by
  have hsz : e.size ≤ 60 ∧ e.typ ≠ 0 := by
    unfold Ex.err at he
    split at he
    · exact absurd he (by decide)
    · split at he
      · exact absurd he (by decide)
      · exact ⟨by omega, by assumption⟩
  have hch := pcheck_ev e (by omega) hf
  have hev := eval_ev ev e.size e (Nat.le_refl _) hsz.2 hf
  have hfo : (∃ n, e.eval ev = ⟨1, n, false, []⟩) ∨ (∃ b, e.eval ev = ⟨2, 0, b, []⟩) ∨ (∃ s, e.eval ev = ⟨3, 0, false, s⟩) := by
    rcases eval_form ev e hsz.2 with ⟨_, h⟩ | ⟨_, h⟩ | ⟨_, h⟩
    · exact .inl h
    · exact .inr (.inl h)
    · exact .inr (.inr h)
  have hw := wrapF_ev hfo
  have hp := vifc_pure (e.eval ev)
  rw [he] at hch
  generalize e.ty = t at hch
  generalize vifc (e.eval ev) = iv at *
  generalize e.eval ev = w at *
  have hm2 : modesOf E 391 = [] := rfl
  have hm3 : modesOf E 392 = [] := rfl
  have hm4 : modesOf E 338 = [] := rfl
  have hap : V.arePure [iv] = true := by simp [V.arePure, hp]
  obtain ⟨a, b, c, d, e', f, L, hv, hpe⟩ := e.form3
  rw [hv] at hch hev ⊢
  have hxv : ev.v = .agg [vi ev.kind, .str ev.cls, .str ev.name, vi ev.weight, vi ev.level, .bool ev.stairs, vi ev.scale, vi ev.hour, vi ev.reader] := rfl
  rw [hxv] at hev ⊢
  have hpa : V.arePure [.agg [vi a, vi b, vi c, vi d, .bool e', .str f, L]] = true := by simp only [V.arePure, hpe, Bool.and_self]
  have hpb : V.arePure [.agg [vi a, vi b, vi c, vi d, .bool e', .str f, L], .agg [vi ev.kind, .str ev.cls, .str ev.name, vi ev.weight, vi ev.level, .bool ev.stairs, vi ev.scale, vi ev.hour, vi ev.reader]] = true := by
    simp only [V.arePure, hpe, Bool.true_and]; rfl
  simp only [Va.v] at hw ⊢
  refine Ev.of_s' E_348 (X_348 _) rfl ?_
  (conv => whnf); repeat' ((first | intro g | refine st ?_ | (first | refine b1 ?_ ?_ | refine b2 ?_ ?_ | refine Br.mk ?_ ?_) <;> intro hc | exact rfl | refine sAct_fn hm4 hpa hch rfl ?_ | refine sAct_fn hm3 hpb hev hp ?_ | refine sAct_fn hm2 hap hw rfl ?_) <;> conv => whnf)
end Go.AM
set_option maxRecDepth 20000
namespace Go.AM
theorem eqf_nil : Ev E 444 [.nils, .nils, .fn 443 []] ⟨.bool true, []⟩ := by
  refine Ev.of_s' E_444 (X_444 _) rfl ?_
  (conv => whnf); repeat' ((first | intro g | refine st ?_ | (first | refine b1 ?_ ?_ | refine b2 ?_ ?_ | refine Br.mk ?_ ?_) <;> intro hc | exact rfl) <;> conv => whnf)
  refine LoopS.by (fun (i : Nat) => ⟨[(16, vnat 0), (17, vnat 0)], []⟩) (fun i => i = 0) (fun _ => 0) 0 (by (refine ⟨?_, ?_⟩ <;> repeat' (first | exact True.intro | refine ai ?_ | refine And.intro ?_ ?_))) rfl ?_
  rintro i rfl
  (conv => whnf); repeat' ((first | intro g | refine st ?_ | (first | refine b1 ?_ ?_ | refine b2 ?_ ?_ | refine Br.mk ?_ ?_) <;> intro hc | exact rfl) <;> conv => whnf)
theorem eqf_ev {l : List Ex} (hlen : l.length < 1000000) (ih : ∀ x ∈ l, Ev E 443 [x.v, x.v] ⟨.bool true, []⟩) : Ev E 444 [.lit 7 (l.map Ex.v), .lit 7 (l.map Ex.v), .fn 443 []] ⟨.bool true, []⟩ := by
  have hm2 : modesOf E 443 = [] := rfl
  have lm : (l.map Ex.v).length = l.length := List.length_map ..
  refine Ev.of_s' E_444 (X_444 _) rfl ?_
  (conv => whnf); repeat' ((first | intro g | refine st ?_ | (first | refine b1 ?_ ?_ | refine b2 ?_ ?_ | refine Br.mk ?_ ?_) <;> intro hc | exact rfl) <;> conv => whnf)
  refine LoopS.by (fun (i : Nat) => ⟨[(1, .lit 7 (l.map Ex.v)), (2, .fn 443 []), (15, .lit 7 (l.map Ex.v)), (16, vnat l.length), (17, vnat i)], []⟩) (fun i => i ≤ l.length) (fun i => l.length - i) 0 (by (refine ⟨?_, ?_⟩ <;> repeat' (first | exact True.intro | refine ai ?_ | refine And.intro ?_ ?_))) (by simp) ?_
  intro i hi
  by_cases hlt : i < l.length
  · obtain ⟨x, hx⟩ : ∃ x, l[i]? = some x := ⟨_, get_lt hlt⟩
    have hxe := ih x (List.mem_of_getElem? hx)
    obtain ⟨a, b, c, d, e', f, L, hv, hp⟩ := x.form3
    rw [hv] at hxe
    (conv => whnf); repeat' ((first | intro g | refine Wit.mk _ (map_getE hx hv rfl) ?_ | refine st ?_ | (first | refine b1 ?_ ?_ | refine b2 ?_ ?_ | refine Br.mk ?_ ?_) <;> intro hc | exact rfl | refine sAct_fn hm2 (apure2 hp hp) hxe rfl ?_) <;> conv => whnf)
    exact NxtS.mk (i + 1) (by first | omega | (dsimp only; omega)) (by first | omega | (dsimp only; omega)) (by (refine ⟨?_, ?_⟩ <;> repeat' (first | exact True.intro | refine ai ?_ | refine And.intro ?_ ?_)))
  · have hi' : i = l.length := by omega
    subst hi'
    (conv => whnf); repeat' ((first | intro g | refine st ?_ | (first | refine b1 ?_ ?_ | refine b2 ?_ ?_ | refine Br.mk ?_ ?_) <;> intro hc | exact rfl) <;> conv => whnf)
theorem psame_ev : ∀ (k : Nat) (e : Ex), e.size ≤ k → k < 1000000 → Ev E 443 [e.v, e.v] ⟨.bool true, []⟩
  | 0, e, h, _ => by have := e.size_pos; omega
  | k + 1, .mk op var val nl l, h, hk => by
    have hsz : Ex.sizes l ≤ k := by simp only [Ex.size] at h; omega
    have ih : ∀ x ∈ l, Ev E 443 [x.v, x.v] ⟨.bool true, []⟩ := fun x hx => psame_ev k x (Nat.le_trans (Ex.size_mem hx) hsz) (by omega)
    have hlen := Ex.length_le l
    have h4 := eqf_ev (by omega) ih
    rw [Ex.v_eq]
    have hself : (val.t == val.t && (val.n == val.n && (val.b == val.b && (decide (val.s = val.s) && true)))) = true := by simp
    have hop : op = op := rfl
    have hvr : var = var := rfl
    cases l with
    | nil =>
      cases nl <;> simp only [List.map_nil, lv, cond_true, cond_false] at h4 ⊢
      all_goals
        refine Ev.of_s' E_443 (X_443 _) rfl ?_
        (conv => whnf); repeat' ((first | intro g | refine CallS.mk _ (h4) ?_ | refine CallS.mk _ (eqf_nil) ?_ | refine st ?_ | (first | refine b1 ?_ ?_ | refine b2 ?_ ?_ | refine Br.mk ?_ ?_) <;> intro hc | exact rfl) <;> conv => whnf)
        all_goals first | exact absurd hself (by assumption) | skip
    | cons y ys =>
      have e1 : lv nl ((y :: ys).map Ex.v) = .lit 7 ((y :: ys).map Ex.v) := rfl
      rw [e1]
      generalize hl : y :: ys = l at *
      clear hl
      refine Ev.of_s' E_443 (X_443 _) rfl ?_
      (conv => whnf); repeat' ((first | intro g | refine CallS.mk _ (h4) ?_ | refine st ?_ | (first | refine b1 ?_ ?_ | refine b2 ?_ ?_ | refine Br.mk ?_ ?_) <;> intro hc | exact rfl) <;> conv => whnf)
      all_goals first | exact absurd hself (by assumption) | skip
end Go.AM
