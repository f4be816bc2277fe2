/-
  Texts of the proof, joined by program: PRefC. Own work.
-/
import Derived.Test.YtjmcpijpclfakaaGreatJa
import Derived.Test.YtjmcpijpclfakaaGreatF
set_option linter.unusedSimpArgs false
set_option linter.unusedVariables false
set_option maxRecDepth 20000
namespace Go.AM
theorem tup_eq {a b : Int} {R : Bd} (h : nb a b = R) : (Res.mk (.tuple [vi a, vi b]) []) = ⟨.tuple [vi R.lo, vi R.hi], []⟩ := by rw [← h]; rfl
theorem any_take {α : Type} {p : α → Bool} {l : List α} {i : Nat} {x : α} (h : l[i]? = some x) : (l.take (i + 1)).any p = ((l.take i).any p || p x) := by
  rw [List.take_add_one, h, List.any_append]; simp
set_option maxHeartbeats 2000000 in
theorem bounds_eqN {sv : V} (hsv : Sv sv) {K : Int → Bd} {x y : Ex} {t er : Int} (hx : Bounds sv K x) (hy : Bounds sv K y) (hch : Ev E 341 [x.v] ⟨.tuple [vi t, vi er], []⟩) (ht : t ≠ 3) (hxt : (x.bd K).text = false) (nl : Bool) : Bounds sv K (.mk 6 0 zeroVa nl [x, y]) := by
  unfold Bounds at *
  have e : (Ex.mk 6 0 zeroVa nl [x, y]).bd K = if (x.bd K).hi < (y.bd K).lo ∨ (y.bd K).hi < (x.bd K).lo then nb 0 0 else if (x.bd K).lo = (x.bd K).hi ∧ (y.bd K).lo = (y.bd K).hi then nb 1 1 else nb 0 1 := by
    simp [Ex.bd, Ex.bds, headBd, opBd, eqB, hxt]
  rw [e]
  have hm2 : modesOf E 342 = [] := rfl
  have hm3 : modesOf E 341 = [] := rfl
  obtain ⟨a1, b1, c1, d1, e1, f1, L1, hv1, hp1⟩ := x.form3
  obtain ⟨a2, b2, c2, d2, e2, f2, L2, hv2, hp2⟩ := y.form3
  rw [hv1] at hx hch
  rw [hv2] at hy
  generalize x.bd K = bx at *
  generalize y.bd K = b2 at *
  generalize hr : (if bx.hi < b2.lo ∨ b2.hi < bx.lo then nb 0 0 else if bx.lo = bx.hi ∧ b2.lo = b2.hi then nb 1 1 else nb 0 1) = R
  have hp1' : V.arePure [.agg [vi a1, vi b1, vi c1, vi d1, .bool e1, .str f1, L1]] = true := by simp only [V.arePure, hp1, Bool.and_self]
  obtain ⟨lo, hi, nl', ws, so, tx⟩ := bx
  obtain ⟨lo', hi', nl2, ws2, so2, tx2⟩ := b2
  dsimp only at hx hy hr
  rw [Ex.v_eq]
  simp only [List.map_cons, List.map_nil, lv_cons, hv1, hv2, zeroVa]
  rcases hsv with rfl | ⟨ks, rfl⟩
  all_goals
    refine Ev.of_s' E_342 (X_342 _) rfl ?_
    (conv => whnf); repeat' ((first | refine sAct_fn hm3 hp1' hch rfl ?_ | refine sAct_fn hm2 (apure2 hp1 rfl) hx rfl ?_ | refine sAct_fn hm2 (apure2 hp2 rfl) hy rfl ?_ | intro g | refine st ?_ | (first | refine b1 ?_ ?_ | refine b2 ?_ ?_ | refine Br.mk ?_ ?_) <;> intro hc | exact rfl) <;> conv => whnf)
  all_goals simp only [decide_eq_true_eq, decide_eq_false_iff_not] at *
  all_goals (refine tup_eq ?_; rw [← hr]; clear hr e; repeat' split)
  all_goals first | rfl | (exfalso; omega)
set_option maxHeartbeats 2000000 in
theorem equal_ev {sv : V} (hsv : Sv sv) {K : Int → Bd} {x y : Ex} (hx : Words sv K x) (hy : Words sv K y) (lx : (x.bd K).ws.length < 1000000) (ly : (y.bd K).ws.length < 1000000) (hxt : (x.bd K).text = true) (nl : Bool) : Ev E 385 [(Ex.mk 6 0 zeroVa nl [x, y]).v, sv] ⟨.tuple [vi (eqB (x.bd K) (y.bd K)).lo, vi (eqB (x.bd K) (y.bd K)).hi], []⟩ := by
  have hm2 : modesOf E 388 = [] := rfl
  obtain ⟨v1, hx, r1⟩ := hx
  obtain ⟨v2, hy, r2⟩ := hy
  obtain ⟨a1, b1, c1, d1, e1, f1, L1, hv1, hp1⟩ := x.form3
  obtain ⟨a2, b2, c2, d2, e2, f2, L2, hv2, hp2⟩ := y.form3
  rw [hv1] at hx
  rw [hv2] at hy
  generalize x.bd K = bx at *
  generalize y.bd K = b2 at *
  have hE : eqB bx b2 = if (bx.some && b2.some) = true then (if (bx.ws.any (fun s => decide (s ∈ b2.ws))) = true then (if bx.ws.length = 1 ∧ b2.ws.length = 1 then nb 1 1 else nb 0 1) else nb 0 0) else nb 0 1 := by simp [eqB, hxt]
  rw [hE]
  generalize hr : (if (bx.some && b2.some) = true then (if (bx.ws.any (fun s => decide (s ∈ b2.ws))) = true then (if bx.ws.length = 1 ∧ b2.ws.length = 1 then nb 1 1 else nb 0 1) else nb 0 0) else nb 0 1) = R
  obtain ⟨lo, hi, nl', ws, so, tx⟩ := bx
  obtain ⟨lo', hi', nl2, ws2, so2, tx2⟩ := b2
  dsimp only at lx ly hr r1 r2
  have i1 := fun r k => r1.imp r k
  have i2 := fun r k => r2.imp r k
  have lm : (ws.map V.str).length = ws.length := List.length_map ..
  have lm2 : (ws2.map V.str).length = ws2.length := List.length_map ..
  rw [Ex.v_eq]
  simp only [List.map_cons, List.map_nil, lv_cons, hv1, hv2, zeroVa]
  cases so
  · subst hr
    rcases hsv with rfl | ⟨ks, rfl⟩
    all_goals
      refine Ev.of_s' E_385 (X_385 _) rfl ?_
      (conv => whnf); repeat' ((first | refine sAct_fnI hm2 (apure2 hp1 rfl) hx i1 ?_ | refine sAct_fnI hm2 (apure2 hp2 rfl) hy i2 ?_ | intro g | refine st ?_ | (first | refine b1 ?_ ?_ | refine b2 ?_ ?_ | refine Br.mk ?_ ?_) <;> intro hc | exact rfl) <;> conv => whnf)
  cases so2
  · subst hr
    rcases hsv with rfl | ⟨ks, rfl⟩
    all_goals
      refine Ev.of_s' E_385 (X_385 _) rfl ?_
      (conv => whnf); repeat' ((first | refine sAct_fnI hm2 (apure2 hp1 rfl) hx i1 ?_ | refine sAct_fnI hm2 (apure2 hp2 rfl) hy i2 ?_ | intro g | refine st ?_ | (first | refine b1 ?_ ?_ | refine b2 ?_ ?_ | refine Br.mk ?_ ?_) <;> intro hc | exact rfl) <;> conv => whnf)
  rcases hsv with rfl | ⟨ks, rfl⟩
  all_goals
    refine Ev.of_s' E_385 (X_385 _) rfl ?_
    (conv => whnf); repeat' ((first | refine sAct_fnI hm2 (apure2 hp1 rfl) hx i1 ?_ | refine sAct_fnI hm2 (apure2 hp2 rfl) hy i2 ?_ | intro g | refine st ?_ | (first | refine b1 ?_ ?_ | refine b2 ?_ ?_ | refine Br.mk ?_ ?_) <;> intro hc | exact rfl) <;> conv => whnf)
    refine LoopS.by (fun (k : Nat) => ⟨[(6, .lit 1 (ws.map V.str)), (8, .lit 1 (ws2.map V.str)), (10, .bool ((ws.take k).any fun s => decide (s ∈ ws2))), (11, vnat k)], []⟩) (fun k => k ≤ ws.length) (fun k => ws.length - k) 0 (by (refine ⟨?_, ?_⟩ <;> repeat' (first | exact True.intro | refine ai ?_ | refine And.intro ?_ ?_))) (by simp) ?_
    intro k hk
    by_cases hkl : k < ws.length
    · have hx : ws[k]? = some ws[k] := get_lt hkl
      generalize ws[k] = s at hx
      have hhas := has_ev (l := ws2) (sv := .lit 1 (ws2.map V.str)) (.inl rfl) s (by omega)
      rw [hasS] at hhas
      have hat := any_take (p := fun s => decide (s ∈ ws2)) hx
      generalize hb : (ws.take k).any (fun s => decide (s ∈ ws2)) = b at *
      cases b
      · simp only [Bool.false_or] at hat
        (conv => whnf); repeat' ((first | intro g | refine Wit.mk _ (map_getE hx rfl rfl) ?_ | refine CallS.mk _ (hhas) ?_ | refine st ?_ | (first | refine b1 ?_ ?_ | refine b2 ?_ ?_ | refine Br.mk ?_ ?_) <;> intro hc | exact rfl) <;> conv => whnf)
        refine NxtS.mk (k + 1) (by first | omega | (dsimp only; omega)) (by omega) ?_
        (refine ⟨?_, ?_⟩ <;> repeat' (first | exact True.intro | refine And.intro (congrArg V.bool hat.symm) ?_ | refine ai ?_ | refine And.intro ?_ ?_))
      · simp only [Bool.true_or] at hat
        (conv => whnf); repeat' ((first | intro g | refine Wit.mk _ (map_getE hx rfl rfl) ?_ | refine CallS.mk _ (hhas) ?_ | refine st ?_ | (first | refine b1 ?_ ?_ | refine b2 ?_ ?_ | refine Br.mk ?_ ?_) <;> intro hc | exact rfl) <;> conv => whnf)
        refine NxtS.mk (k + 1) (by first | omega | (dsimp only; omega)) (by omega) ?_
        (refine ⟨?_, ?_⟩ <;> repeat' (first | exact True.intro | refine And.intro (congrArg V.bool hat.symm) ?_ | refine ai ?_ | refine And.intro ?_ ?_))
    · obtain rfl : k = ws.length := by omega
      rw [List.take_length]
      generalize (ws.any fun s => decide (s ∈ ws2)) = b at *
      cases b
      · subst hr
        (conv => whnf); repeat' ((first | intro g | refine st ?_ | (first | refine b1 ?_ ?_ | refine b2 ?_ ?_ | refine Br.mk ?_ ?_) <;> intro hc | exact rfl) <;> conv => whnf)
      · (conv => whnf); repeat' ((first | intro g | refine st ?_ | (first | refine b1 ?_ ?_ | refine b2 ?_ ?_ | refine Br.mk ?_ ?_) <;> intro hc | exact rfl) <;> conv => whnf)
        all_goals (refine tup_eq ?_; rw [← hr]; clear hr; simp_all)
        all_goals omega
end Go.AM
