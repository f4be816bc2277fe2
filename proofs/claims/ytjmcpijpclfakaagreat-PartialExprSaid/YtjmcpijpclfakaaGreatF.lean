/-
  Texts of the proof, joined by program: PTypI. Own work.
-/
import Derived.Test.YtjmcpijpclfakaaGreatEa
import Derived.Test.YtjmcpijpclfakaaGreatEc
import Derived.Test.YtjmcpijpclfakaaGreatEb
import Derived.Test.YtjmcpijpclfakaaGreatEd
import Derived.Test.YtjmcpijpclfakaaGreatEe
import Derived.Test.YtjmcpijpclfakaaGreatEf
import Derived.Test.YtjmcpijpclfakaaGreatA
set_option linter.unusedSimpArgs false
set_option linter.unusedVariables false
set_option maxRecDepth 20000
namespace Go.AM
theorem okHead_cases {op var : Int} {val : Va} {n : Nat} (h : okHead op var val n = true) :
    (op = 1 ∧ n = 0 ∧ var = 0) ∨ (op = 2 ∧ n = 0 ∧ val = zeroVa) ∨ (op = 3 ∧ n = 1 ∧ var = 0 ∧ val = zeroVa) ∨ ((4 ≤ op ∧ op ≤ 12) ∧ n = 2 ∧ var = 0 ∧ val = zeroVa) ∨ (op = 13 ∧ n = 3 ∧ var = 0 ∧ val = zeroVa) := by
  simp only [okHead, Bool.and_eq_true, Bool.or_eq_true, decide_eq_true_eq, zero_iff] at h
  obtain ⟨⟨h1, h2⟩, h3⟩ := h
  unfold many at h1
  split at h1
  · rename_i e
    rcases e with rfl | rfl
    · exact .inl ⟨rfl, by omega, by rcases h3 with h | h; omega; exact h⟩
    · exact .inr (.inl ⟨rfl, by omega, by rcases h2 with h | h; omega; exact h⟩)
  split at h1
  · rename_i e1 e
    subst e
    exact .inr (.inr (.inl ⟨rfl, by omega, by rcases h3 with h | h; omega; exact h, by rcases h2 with h | h; omega; exact h⟩))
  split at h1
  · rename_i e1 e2 e
    subst e
    exact .inr (.inr (.inr (.inr ⟨rfl, by omega, by rcases h3 with h | h; omega; exact h, by rcases h2 with h | h; omega; exact h⟩)))
  split at h1
  · rename_i e1 e2 e3 e
    exact .inr (.inr (.inr (.inl ⟨e, by omega, by rcases h3 with h | h; omega; exact h, by rcases h2 with h | h; omega; exact h⟩)))
  · omega
theorem rtyp_ev : ∀ (k : Nat) (e : Ex), e.size ≤ k → k < 1000000 → e.Fit → Ev E 383 [e.v] ⟨vi e.typ, []⟩
  | 0, e, h, _, _ => by have := e.size_pos; omega
  | k + 1, .mk op var val nl l, h, hk, hf => by
    have hsz : Ex.sizes l ≤ k := by simp only [Ex.size] at h; omega
    have ih : ∀ x ∈ l, Ev E 383 [x.v] ⟨vi x.typ, []⟩ := fun x hx => rtyp_ev k x (Nat.le_trans (Ex.size_mem hx) hsz) (by omega) (hf.mem x hx)
    have hlen := Ex.length_le l
    rw [Ex.typ_eq]
    cases hh : okHead op var val l.length with
    | false =>
      simp only [headT, hh]
      exact rtyp_bad op var val nl l (by omega) hh
    | true =>
      simp only [headT, hh, if_true]
      rcases okHead_cases hh with ⟨rfl, hl, rfl⟩ | ⟨rfl, hl, rfl⟩ | ⟨rfl, hl, rfl, rfl⟩ | ⟨ho, hl, rfl, rfl⟩ | ⟨rfl, hl, rfl, rfl⟩
      · obtain rfl := List.eq_nil_of_length_eq_zero hl
        exact rtyp_const val nl hf.val
      · obtain rfl := List.eq_nil_of_length_eq_zero hl
        exact rtyp_var var nl
      · match l, hl, ih with
        | [x], _, ih => exact rtyp1 (ih x (by simp)) rfl nl
      · rw [if_neg (by omega), if_neg (by omega)]
        match l, hl, ih with
        | [x, y], _, ih => exact rtyp2 (ih x (by simp)) (ih y (by simp)) ho nl
      · match l, hl, ih with
        | [x, y, z], _, ih => exact rtyp3 (ih x (by simp)) (ih y (by simp)) (ih z (by simp)) rfl nl
theorem ptyp_ev : ∀ (k : Nat) (e : Ex), e.size ≤ k → k < 1000000 → e.Fit → Ev E 371 [e.v] ⟨vi e.typ, []⟩
  | 0, e, h, _, _ => by have := e.size_pos; omega
  | k + 1, .mk op var val nl l, h, hk, hf => by
    have hsz : Ex.sizes l ≤ k := by simp only [Ex.size] at h; omega
    have ih : ∀ x ∈ l, Ev E 371 [x.v] ⟨vi x.typ, []⟩ := fun x hx => ptyp_ev k x (Nat.le_trans (Ex.size_mem hx) hsz) (by omega) (hf.mem x hx)
    have hlen := Ex.length_le l
    rw [Ex.typ_eq]
    cases hh : okHead op var val l.length with
    | false =>
      simp only [headT, hh]
      exact ptyp_bad op var val nl l (by omega) hh
    | true =>
      simp only [headT, hh, if_true]
      rcases okHead_cases hh with ⟨rfl, hl, rfl⟩ | ⟨rfl, hl, rfl⟩ | ⟨rfl, hl, rfl, rfl⟩ | ⟨ho, hl, rfl, rfl⟩ | ⟨rfl, hl, rfl, rfl⟩
      · obtain rfl := List.eq_nil_of_length_eq_zero hl
        exact ptyp_const val nl hf.val
      · obtain rfl := List.eq_nil_of_length_eq_zero hl
        exact ptyp_var var nl
      · match l, hl, ih with
        | [x], _, ih => exact ptyp1 (ih x (by simp)) rfl nl
      · rw [if_neg (by omega), if_neg (by omega)]
        match l, hl, ih with
        | [x, y], _, ih => exact ptyp2 (ih x (by simp)) (ih y (by simp)) ho nl
      · match l, hl, ih with
        | [x, y, z], _, ih => exact ptyp3 (ih x (by simp)) (ih y (by simp)) (ih z (by simp)) rfl nl
def Ex.err (e : Ex) : Int := if 60 < e.size then 2 else if e.typ = 0 then 30 else 0
def Ex.ty (e : Ex) : Int := if 60 < e.size then 0 else e.typ
theorem rcheck_ev (e : Ex) (h : e.size < 1000000) (hf : e.Fit) : Ev E 341 [e.v] ⟨.tuple [vi e.ty, vi e.err], []⟩ := by
  have hs := rsize_ev _ e (Nat.le_refl _) h
  have ht := rtyp_ev _ e (Nat.le_refl _) h hf
  unfold Ex.ty Ex.err
  generalize e.size = sz at *
  generalize e.typ = ty at *
  obtain ⟨a, b, c, d, e', f, L, hv, hL, hp⟩ := e.form2
  rw [hv] at hs ht ⊢
  have hm1 : modesOf E 382 = [] := rfl
  have hm2 : modesOf E 383 = [] := rfl
  refine Ev.of_s' E_341 (X_341 _) rfl ?_
  (conv => whnf); repeat' ((first | intro g | refine sAct_fn (by assumption) (by first | assumption | rfl | (simp only [V.arePure, V.isPure, Bool.and_self, Bool.true_and, Bool.and_true, *])) (hs) rfl ?_ | refine sAct_fn (by assumption) (by first | assumption | rfl | (simp only [V.arePure, V.isPure, Bool.and_self, Bool.true_and, Bool.and_true, *])) (ht) rfl ?_ | refine st ?_ | (first | refine b1 ?_ ?_ | refine b2 ?_ ?_ | refine Br.mk ?_ ?_) <;> intro hc | exact rfl) <;> conv => whnf)
  all_goals simp [*] <;> omega
theorem pcheck_ev (e : Ex) (h : e.size < 1000000) (hf : e.Fit) : Ev E 338 [e.v] ⟨.tuple [vi e.ty, vi e.err], []⟩ := by
  have hs := psize_ev _ e (Nat.le_refl _) h
  have ht := ptyp_ev _ e (Nat.le_refl _) h hf
  unfold Ex.ty Ex.err
  generalize e.size = sz at *
  generalize e.typ = ty at *
  obtain ⟨a, b, c, d, e', f, L, hv, hL, hp⟩ := e.form2
  rw [hv] at hs ht ⊢
  have hm1 : modesOf E 370 = [] := rfl
  have hm2 : modesOf E 371 = [] := rfl
  refine Ev.of_s' E_338 (X_338 _) rfl ?_
  (conv => whnf); repeat' ((first | intro g | refine sAct_fn (by assumption) (by first | assumption | rfl | (simp only [V.arePure, V.isPure, Bool.and_self, Bool.true_and, Bool.and_true, *])) (hs) rfl ?_ | refine sAct_fn (by assumption) (by first | assumption | rfl | (simp only [V.arePure, V.isPure, Bool.and_self, Bool.true_and, Bool.and_true, *])) (ht) rfl ?_ | refine st ?_ | (first | refine b1 ?_ ?_ | refine b2 ?_ ?_ | refine Br.mk ?_ ?_) <;> intro hc | exact rfl) <;> conv => whnf)
  all_goals simp [*] <;> omega
end Go.AM
