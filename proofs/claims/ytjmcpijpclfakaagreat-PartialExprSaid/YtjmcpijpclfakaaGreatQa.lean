/-
  Texts of the proof, joined by program: PFits. Own work.
-/
import Derived.Test.YtjmcpijpclfakaaGreatGc
import Derived.Test.YtjmcpijpclfakaaGreatF
import Derived.Test.YtjmcpijpclfakaaGreatHa
set_option linter.unusedSimpArgs false
set_option linter.unusedVariables false
set_option maxRecDepth 20000
namespace Go.AM
def numV (v : Va) : Int := bif v.b then 1 else v.n
def fitsK (x : Envi) (k : Kno) : Bool :=
  if varT k.var = 0 then true else if varT k.var = 3 then decide ((x.val k.var).s ∈ k.texts)
  else !(decide (numV (x.val k.var) < k.lo) || decide (k.hi < numV (x.val k.var)))
theorem vifc_pure (v : Va) : V.isPure (vifc v) = true := by
  unfold vifc
  repeat' split
  all_goals rfl
theorem Envi.pure (x : Envi) : V.isPure x.v = true := rfl
theorem evalV_ev (x : Envi) (v : Int) : Ev E 392 [.agg [vi 2, vi v, vi 0, vi 0, .bool false, .str [], .lit 7 []], x.v] ⟨vifc (x.val v), []⟩ := by
  have h := variable_ev x v
  have hp := vifc_pure (x.val v)
  generalize vifc (x.val v) = iv at *
  have hm2 : modesOf E 405 = [] := rfl
  simp only [Envi.v] at h ⊢
  refine Ev.of_s' E_392 (X_392 _) rfl ?_
  (conv => whnf); repeat' ((first | intro g | refine st ?_ | (first | refine b1 ?_ ?_ | refine b2 ?_ ?_ | refine Br.mk ?_ ?_) <;> intro hc | exact rfl) <;> conv => whnf)
  rename_i g48 g64
  refine LoopS.by (fun (i : Nat) => ⟨[(2, .ptr 48 g48 0 0), (3, .ptr 64 g64 0 0), (5, .sl 97 g 0 0), (13, vi 0), (14, vi 0)], [(48, ⟨g48, 7, false, false, some [_]⟩), (64, ⟨g64, 9, false, false, some [_]⟩), (97, ⟨g, 1, true, false, some []⟩)]⟩) (fun i => i = 0) (fun i => 0) 0 (by (refine ⟨?_, ?_⟩ <;> repeat' (first | exact True.intro | refine ai ?_ | refine And.intro ?_ ?_))) rfl ?_
  rintro i rfl
  (conv => whnf); repeat' ((first | refine sAct_fn hm2 rfl h hp ?_ | intro g | refine st ?_ | (first | refine b1 ?_ ?_ | refine b2 ?_ ?_ | refine Br.mk ?_ ?_) <;> intro hc | exact rfl) <;> conv => whnf)
  all_goals simp only [hp]
  all_goals (conv => whnf); repeat' ((first | intro g | refine st ?_ | (first | refine b1 ?_ ?_ | refine b2 ?_ ?_ | refine Br.mk ?_ ?_) <;> intro hc | exact rfl) <;> conv => whnf)
theorem evalE_ev (x : Envi) (v : Int) : ∃ w er, Ev E 348 [.agg [vi 2, vi v, vi 0, vi 0, .bool false, .str [], .lit 7 []], x.v] ⟨.tuple [Va.v w, vi er], []⟩ ∧ (varT v = 0 → er ≠ 0) ∧ (varT v ≠ 0 → er = 0 ∧ w = x.val v) := by
  have hch := pcheck_ev (.mk 2 v zeroVa false []) (by simp [Ex.size, Ex.sizes]) (.mk _ _ _ _ _ (by simp [zeroVa]) (by simp))
  have e2 : (Ex.mk 2 v zeroVa false []).v = .agg [vi 2, vi v, vi 0, vi 0, .bool false, .str [], .lit 7 []] := by
    rw [Ex.v_eq]; rfl
  rw [e2] at hch
  have hty : (Ex.mk 2 v zeroVa false []).typ = varT v := by
    simp [Ex.typ, Ex.typs, headT, okHead, many, Va.zero, zeroVa]
  have her : (Ex.mk 2 v zeroVa false []).err = if varT v = 0 then 30 else 0 := by
    simp [Ex.err, Ex.size, Ex.sizes, hty]
  rw [her] at hch
  generalize (Ex.mk 2 v zeroVa false []).ty = t at hch
  have hev := evalV_ev x v
  have hw := wrapV_ev x v
  have hp := vifc_pure (x.val v)
  generalize vifc (x.val v) = iv at *
  have hm2 : modesOf E 391 = [] := rfl
  have hm3 : modesOf E 392 = [] := rfl
  have hap : V.arePure [iv] = true := by simp [V.arePure, hp]
  simp only [Envi.v] at hev ⊢
  by_cases h : varT v = 0
  · rw [if_pos h] at hch
    refine ⟨zeroVa, 30, ?_, fun _ => by decide, fun hh => absurd h hh⟩
    refine Ev.of_s' E_348 (X_348 _) rfl ?_
    (conv => whnf); repeat' ((first | intro g | refine CallS.mk _ (hch) ?_ | refine st ?_ | (first | refine b1 ?_ ?_ | refine b2 ?_ ?_ | refine Br.mk ?_ ?_) <;> intro hc | exact rfl) <;> conv => whnf)
  · rw [if_neg h] at hch
    refine ⟨x.val v, 0, ?_, fun hh => absurd hh h, fun _ => ⟨rfl, rfl⟩⟩
    generalize x.val v = w at *
    refine Ev.of_s' E_348 (X_348 _) rfl ?_
    (conv => whnf); repeat' ((first | refine sAct_fn hm3 rfl hev hp ?_ | refine sAct_fn hm2 hap hw rfl ?_ | intro g | refine CallS.mk _ (hch) ?_ | refine st ?_ | (first | refine b1 ?_ ?_ | refine b2 ?_ ?_ | refine Br.mk ?_ ?_) <;> intro hc | exact rfl) <;> conv => whnf)
theorem val_cases (x : Envi) {v : Int} (h : varT v ≠ 0) : (varT v = 1 ∧ ∃ n, x.val v = ⟨1, n, false, []⟩) ∨ (varT v = 2 ∧ ∃ b, x.val v = ⟨2, 0, b, []⟩) ∨ (varT v = 3 ∧ ∃ s, x.val v = ⟨3, 0, false, s⟩) := by
  have hv := nine (n := v) (fun hh => h (varT_out hh))
  rcases hv with rfl | rfl | rfl | rfl | rfl | rfl | rfl | rfl | rfl
  · exact .inl ⟨rfl, _, rfl⟩
  · exact .inr (.inr ⟨rfl, _, rfl⟩)
  · exact .inr (.inr ⟨rfl, _, rfl⟩)
  · exact .inl ⟨rfl, _, rfl⟩
  · exact .inl ⟨rfl, _, rfl⟩
  · exact .inr (.inl ⟨rfl, _, rfl⟩)
  · exact .inl ⟨rfl, _, rfl⟩
  · exact .inl ⟨rfl, _, rfl⟩
  · exact .inl ⟨rfl, _, rfl⟩
set_option maxHeartbeats 1000000 in
theorem fit1_ev (x : Envi) (k : Kno) (hk : k.texts.length < 1000) : Ev E 347 [k.v, .eptr x.v 0] ⟨.bool (!fitsK x k), []⟩ := by
  obtain ⟨t, hkv, ht⟩ := k.form4
  obtain ⟨w, er, hev, h0, h1⟩ := evalE_ev x k.var
  have hpt := ht.pure (strs_pure _)
  have hm2 : modesOf E 349 = [] := rfl
  rw [hkv]
  unfold fitsK
  simp only [Envi.v] at hev ⊢
  by_cases h : varT k.var = 0
  · have hne := h0 h
    rw [if_pos h]
    simp only [Va.v] at hev
    refine Ev.of_s' E_347 (X_347 _) rfl ?_
    (conv => whnf); repeat' ((first | intro g | refine CallS.mk _ (hev) ?_ | refine st ?_ | (first | refine b1 ?_ ?_ | refine b2 ?_ ?_ | refine Br.mk ?_ ?_) <;> intro hc | exact rfl) <;> conv => whnf)
  · rw [if_neg h]
    obtain ⟨rfl, rfl⟩ := h1 h
    rcases val_cases x h with ⟨e, n, hv⟩ | ⟨e, b, hv⟩ | ⟨e, s, hv⟩
    · rw [if_neg (by rw [e]; decide)]
      rw [hv] at hev ⊢
      simp only [Va.v] at hev
      have hc := constN_ev n false []
      simp only [Va.v] at hc
      simp only [numV, cond_false]
      refine Ev.of_s' E_347 (X_347 _) rfl ?_
      (conv => whnf); repeat' ((first | intro g | refine CallS.mk _ (hev) ?_ | refine CallS.mk _ (hc) ?_ | refine st ?_ | (first | refine b1 ?_ ?_ | refine b2 ?_ ?_ | refine Br.mk ?_ ?_) <;> intro hc | exact rfl) <;> conv => whnf)
      all_goals (simp only [nb] at hc ⊢; simp [numV, hc] <;> rfl)
    · rw [if_neg (by rw [e]; decide)]
      rw [hv] at hev ⊢
      simp only [Va.v] at hev
      have hc := constB_ev 0 b []
      simp only [Va.v] at hc
      cases b
      all_goals
        simp only [cond_true, cond_false] at hc
        refine Ev.of_s' E_347 (X_347 _) rfl ?_
        (conv => whnf); repeat' ((first | intro g | refine CallS.mk _ (hev) ?_ | refine CallS.mk _ (hc) ?_ | refine st ?_ | (first | refine b1 ?_ ?_ | refine b2 ?_ ?_ | refine Br.mk ?_ ?_) <;> intro hc | exact rfl) <;> conv => whnf)
        all_goals (simp only [nb] at hc ⊢; simp [numV, hc] <;> rfl)
    · rw [if_pos e]
      rw [hv] at hev ⊢
      simp only [Va.v] at hev
      have hc := cont_ev ht s (by omega)
      have hpa : V.arePure [t, .str s] = true := by simp [V.arePure, V.isPure, hpt]
      refine Ev.of_s' E_347 (X_347 _) rfl ?_
      (conv => whnf); repeat' ((first | intro g | refine sAct_fn (by assumption) (by first | assumption | rfl | (simp only [V.arePure, V.isPure, Bool.and_self, Bool.true_and, Bool.and_true, *])) (hc) rfl ?_ | refine CallS.mk _ (hev) ?_ | refine st ?_ | (first | refine b1 ?_ ?_ | refine b2 ?_ ?_ | refine Br.mk ?_ ?_) <;> intro hc | exact rfl) <;> conv => whnf)
theorem fits_any (x : Envi) (l : List Kno) : (l.any fun k => !fitsK x k) = !l.all (fitsK x) := by
  induction l with
  | nil => rfl
  | cons k l ih => simp only [List.any_cons, List.all_cons, ih, Bool.not_and]
theorem pfits_ev {l : List Kno} {sv : V} (x : Envi) (hlen : l.length < 1000000) (htx : ∀ k ∈ l, k.texts.length < 1000) (hs : IsS 4 (l.map Kno.v) sv) : Ev E 322 [x.v, sv] ⟨.bool (l.all (fitsK x)), []⟩ := by
  have h := pcont_kno hs (g := 347) (caps := [.eptr x.v 0]) rfl (p := fun k => !fitsK x k) (by omega) (fun k hk => fit1_ev x k (htx k hk)) rfl
  rw [fits_any] at h
  simp only [Envi.v] at h ⊢
  refine Ev.of_s' E_322 (X_322 _) rfl ?_
  rcases hs with rfl | ⟨h0, rfl⟩
  all_goals
    (conv => whnf); repeat' ((first | intro g | refine CallS.mk _ (h) ?_ | refine st ?_ | (first | refine b1 ?_ ?_ | refine b2 ?_ ?_ | refine Br.mk ?_ ?_) <;> intro hc | exact rfl) <;> conv => whnf)
    all_goals simp
set_option maxHeartbeats 1000000 in
theorem rfits_ev {l : List Kno} {sv : V} (x : Envi) (hlen : l.length < 1000000) (htx : ∀ k ∈ l, k.texts.length < 1000) (hs : IsS 4 (l.map Kno.v) sv) : Ev E 323 [x.v, sv] ⟨.bool (l.all (fitsK x)), []⟩ := by
  have lm : (l.map Kno.v).length = l.length := List.length_map ..
  have hxv : x.v = .agg [vi x.kind, .str x.cls, .str x.name, vi x.weight, vi x.level, .bool x.stairs, vi x.scale, vi x.hour, vi x.reader] := rfl
  rcases hs with rfl | ⟨h0, rfl⟩
  rotate_left
  · have : l = [] := by simpa using h0
    subst this
    rw [hxv]
    refine Ev.of_s' E_323 (X_323 _) rfl ?_
    (conv => whnf); repeat' ((first | intro g | refine st ?_ | (first | refine b1 ?_ ?_ | refine b2 ?_ ?_ | refine Br.mk ?_ ?_) <;> intro hc | exact rfl) <;> conv => whnf)
    refine LoopS.by (fun (i : Nat) => ⟨[(1, .nils), (5, vi 0)], []⟩) (fun i => i = 0) (fun i => 0) 0 (by (refine ⟨?_, ?_⟩ <;> repeat' (first | exact True.intro | refine ai ?_ | refine And.intro ?_ ?_))) rfl ?_
    rintro i rfl
    (conv => whnf); repeat' ((first | intro g | refine st ?_ | (first | refine b1 ?_ ?_ | refine b2 ?_ ?_ | refine Br.mk ?_ ?_) <;> intro hc | exact rfl) <;> conv => whnf)
  rw [hxv]
  refine Ev.of_s' E_323 (X_323 _) rfl ?_
  (conv => whnf); repeat' ((first | intro g | refine st ?_ | (first | refine b1 ?_ ?_ | refine b2 ?_ ?_ | refine Br.mk ?_ ?_) <;> intro hc | exact rfl) <;> conv => whnf)
  refine LoopS.by (fun (i : Nat) => ⟨[(1, .lit 4 (l.map Kno.v)), (2, .ptr 48 g 0 0), (5, vi i)], [(48, ⟨g, 9, false, false, some [.agg [vi x.kind, .str x.cls, .str x.name, vi x.weight, vi x.level, .bool x.stairs, vi x.scale, vi x.hour, vi x.reader]]⟩)]⟩)
    (fun i => i ≤ l.length ∧ (l.take i).all (fitsK x) = true) (fun i => l.length - i) 0 (by (refine ⟨?_, ?_⟩ <;> repeat' (first | exact True.intro | refine ai ?_ | refine And.intro ?_ ?_))) (by simp) ?_
  rintro i ⟨hi, hall⟩
  by_cases hlt : i < l.length
  · have hk : l[i]? = some l[i] := get_lt hlt
    generalize l[i] = k at hk
    have hat := all_take (p := fitsK x) hk
    rw [hall, Bool.true_and] at hat
    have hkt := htx k (List.mem_of_getElem? hk)
    obtain ⟨t, hkv, ht⟩ := k.form4
    have hpt := ht.pure (strs_pure _)
    have hvt := varT_ev k.var
    have hno : fitsK x k = false → l.all (fitsK x) = false := fun h => by
      rw [List.all_eq_false]
      exact ⟨k, List.mem_of_getElem? hk, by simp [h]⟩
    have hfk : fitsK x k = if varT k.var = 0 then true else if varT k.var = 3 then decide ((x.val k.var).s ∈ k.texts) else !(decide (numV (x.val k.var) < k.lo) || decide (k.hi < numV (x.val k.var))) := rfl
    rw [hfk] at hat hno
    by_cases h : varT k.var = 0
    · rw [h] at hvt
      rw [if_pos h] at hat
      (conv => whnf); repeat' ((first | intro g | refine Wit.mk _ (map_getE hk hkv rfl) ?_ | refine CallS.mk _ (hvt) ?_ | refine st ?_ | (first | refine b1 ?_ ?_ | refine b2 ?_ ?_ | refine Br.mk ?_ ?_) <;> intro hc | exact rfl) <;> conv => whnf)
      exact NxtS.mk (i + 1) (by first | omega | (dsimp only; omega)) ⟨by omega, hat⟩ (by (refine ⟨?_, ?_⟩ <;> repeat' (first | exact True.intro | refine ai ?_ | refine And.intro ?_ ?_)))
    rw [if_neg h] at hat hno
    have hrv := rvar_ev x (n := k.var) (fun hh => h (varT_out hh))
    rw [hxv] at hrv
    have hm2 : modesOf E 353 = [] := rfl
    rcases val_cases x h with ⟨e, n, hv⟩ | ⟨e, b, hv⟩ | ⟨e, s, hv⟩
    · rw [if_neg (by rw [e]; decide)] at hat hno
      rw [hv] at hrv hat hno
      rw [e] at hvt
      have hn := number_ev 1 n false []
      simp only [Va.v, cond_false] at hrv hn
      simp only [numV, cond_false] at hat hno
      (conv => whnf); repeat' ((first | intro g | refine Wit.mk _ (map_getE hk hkv rfl) ?_ | refine CallS.mk _ (hvt) ?_ | refine CallS.mk _ (hrv) ?_ | refine CallS.mk _ (hn) ?_ | refine st ?_ | (first | refine b1 ?_ ?_ | refine b2 ?_ ?_ | refine Br.mk ?_ ?_) <;> intro hc | exact rfl) <;> conv => whnf)
      · rw [hno (by simp [hc])]
      · rw [hno (by simp [hc])]
      · exact NxtS.mk (i + 1) (by first | omega | (dsimp only; omega)) ⟨by omega, by rw [hat]; simp only [Bool.not_eq_true', Bool.or_eq_false_iff]; exact ⟨decide_eq_false (by omega), decide_eq_false (by omega)⟩⟩ (by (refine ⟨?_, ?_⟩ <;> repeat' (first | exact True.intro | refine ai ?_ | refine And.intro ?_ ?_)))
    · rw [if_neg (by rw [e]; decide)] at hat hno
      rw [hv] at hrv hat hno
      rw [e] at hvt
      have hn := number_ev 2 0 b []
      simp only [Va.v] at hrv hn
      simp only [numV] at hat hno
      cases b
      all_goals
        simp only [cond_true, cond_false] at hn hat hno
        (conv => whnf); repeat' ((first | intro g | refine Wit.mk _ (map_getE hk hkv rfl) ?_ | refine CallS.mk _ (hvt) ?_ | refine CallS.mk _ (hrv) ?_ | refine CallS.mk _ (hn) ?_ | refine st ?_ | (first | refine b1 ?_ ?_ | refine b2 ?_ ?_ | refine Br.mk ?_ ?_) <;> intro hc | exact rfl) <;> conv => whnf)
        · rw [hno (by simp [hc])]
        · rw [hno (by simp [hc])]
        · exact NxtS.mk (i + 1) (by first | omega | (dsimp only; omega)) ⟨by omega, by rw [hat]; simp only [Bool.not_eq_true', Bool.or_eq_false_iff]; exact ⟨decide_eq_false (by omega), decide_eq_false (by omega)⟩⟩ (by (refine ⟨?_, ?_⟩ <;> repeat' (first | exact True.intro | refine ai ?_ | refine And.intro ?_ ?_)))
    · rw [if_pos e] at hat hno
      rw [hv] at hrv hat hno
      rw [e] at hvt
      simp only [Va.v] at hrv
      have hc := has_ev ht s (by omega)
      have hpa : V.arePure [t, .str s] = true := by simp [V.arePure, V.isPure, hpt]
      rw [hasS] at hc
      dsimp only at hat hno
      by_cases hm : s ∈ k.texts
      · rw [decide_eq_true hm] at hc hat
        (conv => whnf); repeat' ((first | intro g | refine Wit.mk _ (map_getE hk hkv rfl) ?_ | refine sAct_fn (by assumption) (by first | assumption | rfl | (simp only [V.arePure, V.isPure, Bool.and_self, Bool.true_and, Bool.and_true, *])) (hc) rfl ?_ | refine CallS.mk _ (hvt) ?_ | refine CallS.mk _ (hrv) ?_ | refine st ?_ | (first | refine b1 ?_ ?_ | refine b2 ?_ ?_ | refine Br.mk ?_ ?_) <;> intro hc | exact rfl) <;> conv => whnf)
        exact NxtS.mk (i + 1) (by first | omega | (dsimp only; omega)) ⟨by omega, hat⟩ (by (refine ⟨?_, ?_⟩ <;> repeat' (first | exact True.intro | refine ai ?_ | refine And.intro ?_ ?_)))
      · rw [decide_eq_false hm] at hc hno
        rw [hno rfl]
        (conv => whnf); repeat' ((first | intro g | refine Wit.mk _ (map_getE hk hkv rfl) ?_ | refine sAct_fn (by assumption) (by first | assumption | rfl | (simp only [V.arePure, V.isPure, Bool.and_self, Bool.true_and, Bool.and_true, *])) (hc) rfl ?_ | refine CallS.mk _ (hvt) ?_ | refine CallS.mk _ (hrv) ?_ | refine st ?_ | (first | refine b1 ?_ ?_ | refine b2 ?_ ?_ | refine Br.mk ?_ ?_) <;> intro hc | exact rfl) <;> conv => whnf)
  · obtain rfl : i = l.length := by omega
    rw [List.take_length] at hall
    rw [hall]
    (conv => whnf); repeat' ((first | intro g | refine st ?_ | (first | refine b1 ?_ ?_ | refine b2 ?_ ?_ | refine Br.mk ?_ ?_) <;> intro hc | exact rfl) <;> conv => whnf)
end Go.AM
