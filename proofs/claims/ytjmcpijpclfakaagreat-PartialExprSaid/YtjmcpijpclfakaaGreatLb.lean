/-
  Texts of the proof, joined by program: PSimC4, PSimC5, PSimD. Own work.
-/
import Derived.Test.YtjmcpijpclfakaaGreatKa
import Derived.Test.YtjmcpijpclfakaaGreatLa
set_option linter.unusedSimpArgs false
set_option linter.unusedVariables false
set_option maxRecDepth 20000
namespace Go.AM
set_option maxHeartbeats 4000000 in
theorem sim_4 {x y : Ex} {l : List Ex} (hl : l = [x, y]) {Bx By : Bd} {es : List V} {S : Ex → Ex} {t er : Int} {val : Va} {var : Int} {nl : Bool} {vv : V} (hmp : V.isPure (.mlit es) = true) (hlen : l.length < 1000000)
    (hch : Ev E 338 [(Ex.mk 4 var val nl l).v] ⟨.tuple [vi t, vi er], []⟩) (hval : Ev E 387 [.mlit es, (Ex.mk 4 var val nl l).v, vi t] ⟨vv, []⟩) (hcv : ConV none vv)
    (ofx : Ev E 340 [.mlit es, x.v] ⟨Bx.v, []⟩) (ofy : Ev E 340 [.mlit es, y.v] ⟨By.v, []⟩)
    (ih : ∀ x ∈ l, ∃ r, Ev E 344 [.mlit es, x.v] ⟨r, []⟩ ∧ ExR (S x) r) : ∃ r, Ev E 344 [.mlit es, (Ex.mk 4 var val nl l).v] ⟨r, []⟩ ∧ ExR (simHead none 4 var val [Bx, By] (l.map S)) r := by
  obtain ⟨Xe, rfl, _⟩ := hcv
  have hm1 : modesOf E 338 = [] := rfl
  have hm2 : modesOf E 340 = [] := rfl
  have hm3 : modesOf E 387 = [] := rfl
  have hm4 : modesOf E 344 = [] := rfl
  obtain ⟨a0, b0, c0, d0, e0, f0, L0, hv0, hp0⟩ := Xe.form3
  rw [hv0] at hval
  have hpv : V.isPure (.tuple [.agg [vi a0, vi b0, vi c0, vi d0, .bool e0, .str f0, L0], .bool (none : Option Ex).isSome]) = true := by
    simp only [V.isPure, V.arePure, Bool.and_eq_true] at hp0 ⊢
    simp [hp0]
  have hne : 0 < l.length := by rw [hl]; simp
  have hll : l.length = 2 := by rw [hl]; rfl
  have lm : (l.map Ex.v).length = 2 := by rw [List.length_map, hll]
  have hx : l[0]? = some x := by rw [hl]; rfl
  obtain ⟨rx, hex, hrx⟩ := ih x (by rw [hl]; simp)
  have hix := fun r k => hrx.imp r k
  obtain ⟨a1x, b1x, c1x, d1x, e1x, f1x, L1x, hvx, hpx⟩ := x.form3
  rw [hvx] at ofx hex
  have hy : l[1]? = some y := by rw [hl]; rfl
  obtain ⟨ry, hey, hry⟩ := ih y (by rw [hl]; simp)
  have hiy := fun r k => hry.imp r k
  obtain ⟨a1y, b1y, c1y, d1y, e1y, f1y, L1y, hvy, hpy⟩ := y.form3
  rw [hvy] at ofy hey
  have hlv : lv nl (l.map Ex.v) = .lit 7 (l.map Ex.v) := by
    cases l with
    | nil => simp at hne
    | cons y ys => rfl
  rw [Ex.v_eq, hlv] at hch hval ⊢
  have hpa : V.arePure [.mlit es, .agg [vi 4, vi var, vi val.t, vi val.n, .bool val.b, .str val.s, .lit 7 (l.map Ex.v)], vi t] = true := by simp only [V.arePure, hmp, Bool.true_and]; rfl
  have hR1 : Bx.lo = 1 → simHead none 4 var val [Bx, By] (l.map S) = S y := fun q => by simp [hl, simHead, pick, q]
  have hR2 : ¬ Bx.lo = 1 → By.lo = 1 → simHead none 4 var val [Bx, By] (l.map S) = S x := fun q q2 => by simp [hl, simHead, pick, q, q2]
  have hR3 : ¬ Bx.lo = 1 → ¬ By.lo = 1 → simHead none 4 var val [Bx, By] (l.map S) = Ex.mk 4 var val true (l.map S) := fun q q2 => by simp [hl, simHead, pick, q, q2]
  generalize simHead none 4 var val [Bx, By] (l.map S) = R at *
  refine evex ?_
  refine Ev.of_s (R := fun r => ∃ v, r = ⟨v, []⟩ ∧ ExR (R) v) E_344 (X_344 _) rfl ?_
  (conv => whnf); repeat' ((first | refine sAct_fn hm3 hpa hval hpv ?_ | refine sAct_fn hm2 (apure2 hmp hpx) ofx (Bd.pure _) ?_ | refine sAct_fn hm2 (apure2 hmp hpy) ofy (Bd.pure _) ?_ | intro g | refine Wit.mk _ (map_getE hx hvx rfl) ?_ | refine Wit.mk _ (map_getE hy hvy rfl) ?_ | refine CallS.mk _ (hch) ?_ | refine st ?_ | (first | refine b1 ?_ ?_ | refine b2 ?_ ?_ | refine Br.mk ?_ ?_) <;> intro hc | exact rfl) <;> conv => whnf)
  rename_i g64 g80
  refine LoopS.by (fun (i : Nat) => ⟨[(0, .mlit es), (3, .ptr 64 g64 0 0), (4, .ptr 80 g80 0 0), (61, vnat i)], [(64, ⟨g64, 7, false, false, some [.agg [vi 4, vi var, vi val.t, vi val.n, .bool val.b, .str val.s, .lit 7 (l.map Ex.v)]]⟩), (80, ⟨g80, 7, false, false, some [.agg [vi 0, vi 0, vi 0, vi 0, .bool false, .str [], .lit 7 []]]⟩)]⟩) (fun i => i ≤ 2 ∧ (0 < i → ¬ Bx.lo = 1) ∧ (1 < i → ¬ By.lo = 1)) (fun i => 2 - i) 0 (by (refine ⟨?_, ?_⟩ <;> repeat' (first | exact True.intro | refine ai ?_ | refine And.intro ?_ ?_))) (by simp) ?_
  rintro i ⟨hi, q1, q2⟩
  have hi2 : i = 0 ∨ i = 1 ∨ i = 2 := by omega
  have w0 : IntKind.i64.wrap (1 - ((0 : Nat) : Int)) = ((1 : Nat) : Int) := by decide
  have w1 : IntKind.i64.wrap (1 - ((1 : Nat) : Int)) = ((0 : Nat) : Int) := by decide
  rcases hi2 with rfl | rfl | rfl
  · by_cases c1 : Bx.lo = 1
    · rw [hR1 c1]
      obtain ⟨a8, b8, c8, d8, e8, f8, M8, hv8, hM8⟩ := (S y).form
      rw [hv8] at hiy
      rcases hM8 with rfl | ⟨us, rfl⟩
      all_goals
        (conv => whnf); repeat' ((first | refine sAct_fn hm3 hpa hval hpv ?_ | refine sAct_fn hm2 (apure2 hmp hpx) ofx (Bd.pure _) ?_ | refine sAct_fn hm2 (apure2 hmp hpy) ofy (Bd.pure _) ?_ | refine sAct_fnI hm4 (apure2 hmp hpy) hey hiy ?_ | intro g | refine Wit.mk _ (map_getE hx hvx rfl) ?_ | refine Wit.mk _ (map_getE hy hvy rfl) ?_ | refine Wit.mk _ (map_getE hy hvy w0) ?_ | refine Wit.mk _ (map_getE hx hvx w1) ?_ | refine st ?_ | (first | refine b1 ?_ ?_ | refine b2 ?_ ?_ | refine Br.mk ?_ ?_) <;> intro hc | exact rfl) <;> conv => whnf)
        exact ⟨_, rfl, .inl hv8.symm⟩
    · (conv => whnf); repeat' ((first | refine sAct_fn hm3 hpa hval hpv ?_ | refine sAct_fn hm2 (apure2 hmp hpx) ofx (Bd.pure _) ?_ | refine sAct_fn hm2 (apure2 hmp hpy) ofy (Bd.pure _) ?_ | intro g | refine Wit.mk _ (map_getE hx hvx rfl) ?_ | refine Wit.mk _ (map_getE hy hvy rfl) ?_ | refine Wit.mk _ (map_getE hy hvy w0) ?_ | refine Wit.mk _ (map_getE hx hvx w1) ?_ | refine st ?_ | (first | refine b1 ?_ ?_ | refine b2 ?_ ?_ | refine Br.mk ?_ ?_) <;> intro hc | exact rfl) <;> conv => whnf)
      exact NxtS.mk 1 (by first | omega | (dsimp only; omega)) ⟨by omega, by intro _; first | exact c1 | exact q1 (by omega), by intro _; first | exact c1 | omega⟩ (by (refine ⟨?_, ?_⟩ <;> repeat' (first | exact True.intro | refine ai ?_ | refine And.intro ?_ ?_)))
  · by_cases c1 : By.lo = 1
    · rw [hR2 (q1 (by omega)) c1]
      obtain ⟨a8, b8, c8, d8, e8, f8, M8, hv8, hM8⟩ := (S x).form
      rw [hv8] at hix
      rcases hM8 with rfl | ⟨us, rfl⟩
      all_goals
        (conv => whnf); repeat' ((first | refine sAct_fn hm3 hpa hval hpv ?_ | refine sAct_fn hm2 (apure2 hmp hpx) ofx (Bd.pure _) ?_ | refine sAct_fn hm2 (apure2 hmp hpy) ofy (Bd.pure _) ?_ | refine sAct_fnI hm4 (apure2 hmp hpx) hex hix ?_ | intro g | refine Wit.mk _ (map_getE hx hvx rfl) ?_ | refine Wit.mk _ (map_getE hy hvy rfl) ?_ | refine Wit.mk _ (map_getE hy hvy w0) ?_ | refine Wit.mk _ (map_getE hx hvx w1) ?_ | refine st ?_ | (first | refine b1 ?_ ?_ | refine b2 ?_ ?_ | refine Br.mk ?_ ?_) <;> intro hc | exact rfl) <;> conv => whnf)
        exact ⟨_, rfl, .inl hv8.symm⟩
    · (conv => whnf); repeat' ((first | refine sAct_fn hm3 hpa hval hpv ?_ | refine sAct_fn hm2 (apure2 hmp hpx) ofx (Bd.pure _) ?_ | refine sAct_fn hm2 (apure2 hmp hpy) ofy (Bd.pure _) ?_ | intro g | refine Wit.mk _ (map_getE hx hvx rfl) ?_ | refine Wit.mk _ (map_getE hy hvy rfl) ?_ | refine Wit.mk _ (map_getE hy hvy w0) ?_ | refine Wit.mk _ (map_getE hx hvx w1) ?_ | refine st ?_ | (first | refine b1 ?_ ?_ | refine b2 ?_ ?_ | refine Br.mk ?_ ?_) <;> intro hc | exact rfl) <;> conv => whnf)
      exact NxtS.mk 2 (by first | omega | (dsimp only; omega)) ⟨by omega, by intro _; first | exact c1 | exact q1 (by omega), by intro _; first | exact c1 | omega⟩ (by (refine ⟨?_, ?_⟩ <;> repeat' (first | exact True.intro | refine ai ?_ | refine And.intro ?_ ?_)))
  · have q1 := q1 (by omega)
    have q2 := q2 (by omega)
    rw [hR3 q1 q2]
    (conv => whnf); repeat' ((first | intro g | refine st ?_ | (first | refine b1 ?_ ?_ | refine b2 ?_ ?_ | refine Br.mk ?_ ?_) <;> intro hc | exact rfl) <;> conv => whnf)
    skip
    refine LoopS.by (fun ((i, L, ce) : Nat × List Ex × Option Nat) => ⟨[(0, .mlit es), (3, .ptr 64 g64 0 0), (4, .ptr 80 g80 0 0), (108, .lit 7 (l.map Ex.v)), (109, vnat (l.map Ex.v).length), (110, vnat i)],
        match ce with
        | none => [(80, ⟨g80, 7, false, false, some [.agg [vi 0, vi 0, vi 0, vi 0, .bool false, .str [], .lit 7 []]]⟩), (64, ⟨g64, 7, false, false, some [.agg [vi 4, vi var, vi val.t, vi val.n, .bool val.b, .str val.s, .nils]]⟩)]
        | some g69 => [(80, ⟨g80, 7, false, false, some [.agg [vi 0, vi 0, vi 0, vi 0, .bool false, .str [], .lit 7 []]]⟩), (64, ⟨g64, 7, false, false, some [.agg [vi 4, vi var, vi val.t, vi val.n, .bool val.b, .str val.s, .sl 69 g69 0 L.length]]⟩), (69, ⟨g69, 7, true, false, some (L.map Ex.v)⟩)]⟩)
      (fun (i, L, ce) => i ≤ l.length ∧ L.length = i ∧ L = (l.take i).map S ∧ (ce = none → L = []) ∧ (0 < i → ce ≠ none)) (fun (i, _) => l.length - i) (0, [], none) (by (refine ⟨?_, ?_⟩ <;> repeat' (first | exact True.intro | refine ai ?_ | refine And.intro ?_ ?_))) ⟨by simp, by simp, by simp, by simp, by simp⟩ ?_
    rintro ⟨i, L, ce⟩ ⟨hi, hL, hLt, hce, hcn⟩
    try dsimp only at hi hL hLt hce hcn
    by_cases hlt : i < l.length
    · obtain ⟨u, hu⟩ : ∃ u, l[i]? = some u := ⟨_, get_lt hlt⟩
      obtain ⟨ru, heu, hru⟩ := ih u (List.mem_of_getElem? hu)
      have hiu := fun r k => hru.imp r k
      have hLn : L ++ [S u] = (l.take (i + 1)).map S := by rw [hLt, List.take_add_one, hu]; simp
      obtain ⟨a9, b9, c9, d9, e9, f9, M9, hv9, hp9⟩ := u.form3
      rw [hv9] at heu
      obtain ⟨a8, b8, c8, d8, e8, f8, M8, hv8, hM8⟩ := (S u).form
      rw [hv8] at hiu
      rcases hM8 with rfl | ⟨us, rfl⟩
      all_goals
        cases ce with
        | none =>
          obtain rfl := hce rfl
          (conv => whnf); repeat' ((first | refine sAct_fnI hm4 (apure2 hmp hp9) heu hiu ?_ | intro g | refine Wit.mk _ (map_getE hu hv9 rfl) ?_ | refine st ?_ | (first | refine b1 ?_ ?_ | refine b2 ?_ ?_ | refine Br.mk ?_ ?_) <;> intro hc | exact rfl) <;> conv => whnf)
          exact NxtS.mk (i + 1, [S u], some g) (by first | omega | (dsimp only; omega)) ⟨(by first | omega | (dsimp only; omega)), by simp at hL ⊢; omega, hLn, by simp, by simp⟩ (by simp only [List.map_cons, List.map_nil, hv8]; (refine ⟨?_, ?_⟩ <;> repeat' (first | exact True.intro | refine ai ?_ | refine And.intro ?_ ?_)))
        | some g69 =>
          (conv => whnf); repeat' ((first | refine sAct_fnI hm4 (apure2 hmp hp9) heu hiu ?_ | intro g | refine Wit.mk _ (map_getE hu hv9 rfl) ?_ | refine st ?_ | (first | refine b1 ?_ ?_ | refine b2 ?_ ?_ | refine Br.mk ?_ ?_) <;> intro hc | exact rfl) <;> conv => whnf)
          exact NxtS.mk (i + 1, L ++ [S u], some g) (by first | omega | (dsimp only; omega)) ⟨(by first | omega | (dsimp only; omega)), by simp; omega, hLn, by simp, by simp⟩ (by simp only [List.map_append, List.map_cons, List.map_nil, hv8]; (refine ⟨?_, ?_⟩ <;> repeat' (first | exact True.intro | refine ai ?_ | refine And.intro ?_ ?_)))
    · have hi' : i = l.length := by omega
      subst hi'
      rw [List.take_length] at hLt
      cases ce with
      | none => exact absurd rfl (hcn hne)
      | some g69 =>
        (conv => whnf); repeat' ((first | intro g | refine Need.mk (⟨by simp, Ex.pures _⟩) ?_ | refine st ?_ | (first | refine b1 ?_ ?_ | refine b2 ?_ ?_ | refine Br.mk ?_ ?_) <;> intro hc | exact rfl) <;> conv => whnf)
        exact ⟨_, rfl, exr_own hne hLt⟩
end Go.AM
set_option maxRecDepth 20000
namespace Go.AM
set_option maxHeartbeats 4000000 in
theorem sim_5 {x y : Ex} {l : List Ex} (hl : l = [x, y]) {Bx By : Bd} {es : List V} {S : Ex → Ex} {t er : Int} {val : Va} {var : Int} {nl : Bool} {vv : V} (hmp : V.isPure (.mlit es) = true) (hlen : l.length < 1000000)
    (hch : Ev E 338 [(Ex.mk 5 var val nl l).v] ⟨.tuple [vi t, vi er], []⟩) (hval : Ev E 387 [.mlit es, (Ex.mk 5 var val nl l).v, vi t] ⟨vv, []⟩) (hcv : ConV none vv)
    (ofx : Ev E 340 [.mlit es, x.v] ⟨Bx.v, []⟩) (ofy : Ev E 340 [.mlit es, y.v] ⟨By.v, []⟩)
    (ih : ∀ x ∈ l, ∃ r, Ev E 344 [.mlit es, x.v] ⟨r, []⟩ ∧ ExR (S x) r) : ∃ r, Ev E 344 [.mlit es, (Ex.mk 5 var val nl l).v] ⟨r, []⟩ ∧ ExR (simHead none 5 var val [Bx, By] (l.map S)) r := by
  obtain ⟨Xe, rfl, _⟩ := hcv
  have hm1 : modesOf E 338 = [] := rfl
  have hm2 : modesOf E 340 = [] := rfl
  have hm3 : modesOf E 387 = [] := rfl
  have hm4 : modesOf E 344 = [] := rfl
  obtain ⟨a0, b0, c0, d0, e0, f0, L0, hv0, hp0⟩ := Xe.form3
  rw [hv0] at hval
  have hpv : V.isPure (.tuple [.agg [vi a0, vi b0, vi c0, vi d0, .bool e0, .str f0, L0], .bool (none : Option Ex).isSome]) = true := by
    simp only [V.isPure, V.arePure, Bool.and_eq_true] at hp0 ⊢
    simp [hp0]
  have hne : 0 < l.length := by rw [hl]; simp
  have hll : l.length = 2 := by rw [hl]; rfl
  have lm : (l.map Ex.v).length = 2 := by rw [List.length_map, hll]
  have hx : l[0]? = some x := by rw [hl]; rfl
  obtain ⟨rx, hex, hrx⟩ := ih x (by rw [hl]; simp)
  have hix := fun r k => hrx.imp r k
  obtain ⟨a1x, b1x, c1x, d1x, e1x, f1x, L1x, hvx, hpx⟩ := x.form3
  rw [hvx] at ofx hex
  have hy : l[1]? = some y := by rw [hl]; rfl
  obtain ⟨ry, hey, hry⟩ := ih y (by rw [hl]; simp)
  have hiy := fun r k => hry.imp r k
  obtain ⟨a1y, b1y, c1y, d1y, e1y, f1y, L1y, hvy, hpy⟩ := y.form3
  rw [hvy] at ofy hey
  have hlv : lv nl (l.map Ex.v) = .lit 7 (l.map Ex.v) := by
    cases l with
    | nil => simp at hne
    | cons y ys => rfl
  rw [Ex.v_eq, hlv] at hch hval ⊢
  have hpa : V.arePure [.mlit es, .agg [vi 5, vi var, vi val.t, vi val.n, .bool val.b, .str val.s, .lit 7 (l.map Ex.v)], vi t] = true := by simp only [V.arePure, hmp, Bool.true_and]; rfl
  have hR1 : Bx.hi = 0 → simHead none 5 var val [Bx, By] (l.map S) = S y := fun q => by simp [hl, simHead, pick, q]
  have hR2 : ¬ Bx.hi = 0 → By.hi = 0 → simHead none 5 var val [Bx, By] (l.map S) = S x := fun q q2 => by simp [hl, simHead, pick, q, q2]
  have hR3 : ¬ Bx.hi = 0 → ¬ By.hi = 0 → simHead none 5 var val [Bx, By] (l.map S) = Ex.mk 5 var val true (l.map S) := fun q q2 => by simp [hl, simHead, pick, q, q2]
  generalize simHead none 5 var val [Bx, By] (l.map S) = R at *
  refine evex ?_
  refine Ev.of_s (R := fun r => ∃ v, r = ⟨v, []⟩ ∧ ExR (R) v) E_344 (X_344 _) rfl ?_
  (conv => whnf); repeat' ((first | refine sAct_fn hm3 hpa hval hpv ?_ | refine sAct_fn hm2 (apure2 hmp hpx) ofx (Bd.pure _) ?_ | refine sAct_fn hm2 (apure2 hmp hpy) ofy (Bd.pure _) ?_ | intro g | refine Wit.mk _ (map_getE hx hvx rfl) ?_ | refine Wit.mk _ (map_getE hy hvy rfl) ?_ | refine CallS.mk _ (hch) ?_ | refine st ?_ | (first | refine b1 ?_ ?_ | refine b2 ?_ ?_ | refine Br.mk ?_ ?_) <;> intro hc | exact rfl) <;> conv => whnf)
  rename_i g64 g80
  refine LoopS.by (fun (i : Nat) => ⟨[(0, .mlit es), (3, .ptr 64 g64 0 0), (4, .ptr 80 g80 0 0), (84, vnat i)], [(64, ⟨g64, 7, false, false, some [.agg [vi 5, vi var, vi val.t, vi val.n, .bool val.b, .str val.s, .lit 7 (l.map Ex.v)]]⟩), (80, ⟨g80, 7, false, false, some [.agg [vi 0, vi 0, vi 0, vi 0, .bool false, .str [], .lit 7 []]]⟩)]⟩) (fun i => i ≤ 2 ∧ (0 < i → ¬ Bx.hi = 0) ∧ (1 < i → ¬ By.hi = 0)) (fun i => 2 - i) 0 (by (refine ⟨?_, ?_⟩ <;> repeat' (first | exact True.intro | refine ai ?_ | refine And.intro ?_ ?_))) (by simp) ?_
  rintro i ⟨hi, q1, q2⟩
  have hi2 : i = 0 ∨ i = 1 ∨ i = 2 := by omega
  have w0 : IntKind.i64.wrap (1 - ((0 : Nat) : Int)) = ((1 : Nat) : Int) := by decide
  have w1 : IntKind.i64.wrap (1 - ((1 : Nat) : Int)) = ((0 : Nat) : Int) := by decide
  rcases hi2 with rfl | rfl | rfl
  · by_cases c1 : Bx.hi = 0
    · rw [hR1 c1]
      obtain ⟨a8, b8, c8, d8, e8, f8, M8, hv8, hM8⟩ := (S y).form
      rw [hv8] at hiy
      rcases hM8 with rfl | ⟨us, rfl⟩
      all_goals
        (conv => whnf); repeat' ((first | refine sAct_fn hm3 hpa hval hpv ?_ | refine sAct_fn hm2 (apure2 hmp hpx) ofx (Bd.pure _) ?_ | refine sAct_fn hm2 (apure2 hmp hpy) ofy (Bd.pure _) ?_ | refine sAct_fnI hm4 (apure2 hmp hpy) hey hiy ?_ | intro g | refine Wit.mk _ (map_getE hx hvx rfl) ?_ | refine Wit.mk _ (map_getE hy hvy rfl) ?_ | refine Wit.mk _ (map_getE hy hvy w0) ?_ | refine Wit.mk _ (map_getE hx hvx w1) ?_ | refine st ?_ | (first | refine b1 ?_ ?_ | refine b2 ?_ ?_ | refine Br.mk ?_ ?_) <;> intro hc | exact rfl) <;> conv => whnf)
        exact ⟨_, rfl, .inl hv8.symm⟩
    · (conv => whnf); repeat' ((first | refine sAct_fn hm3 hpa hval hpv ?_ | refine sAct_fn hm2 (apure2 hmp hpx) ofx (Bd.pure _) ?_ | refine sAct_fn hm2 (apure2 hmp hpy) ofy (Bd.pure _) ?_ | intro g | refine Wit.mk _ (map_getE hx hvx rfl) ?_ | refine Wit.mk _ (map_getE hy hvy rfl) ?_ | refine Wit.mk _ (map_getE hy hvy w0) ?_ | refine Wit.mk _ (map_getE hx hvx w1) ?_ | refine st ?_ | (first | refine b1 ?_ ?_ | refine b2 ?_ ?_ | refine Br.mk ?_ ?_) <;> intro hc | exact rfl) <;> conv => whnf)
      exact NxtS.mk 1 (by first | omega | (dsimp only; omega)) ⟨by omega, by intro _; first | exact c1 | exact q1 (by omega), by intro _; first | exact c1 | omega⟩ (by (refine ⟨?_, ?_⟩ <;> repeat' (first | exact True.intro | refine ai ?_ | refine And.intro ?_ ?_)))
  · by_cases c1 : By.hi = 0
    · rw [hR2 (q1 (by omega)) c1]
      obtain ⟨a8, b8, c8, d8, e8, f8, M8, hv8, hM8⟩ := (S x).form
      rw [hv8] at hix
      rcases hM8 with rfl | ⟨us, rfl⟩
      all_goals
        (conv => whnf); repeat' ((first | refine sAct_fn hm3 hpa hval hpv ?_ | refine sAct_fn hm2 (apure2 hmp hpx) ofx (Bd.pure _) ?_ | refine sAct_fn hm2 (apure2 hmp hpy) ofy (Bd.pure _) ?_ | refine sAct_fnI hm4 (apure2 hmp hpx) hex hix ?_ | intro g | refine Wit.mk _ (map_getE hx hvx rfl) ?_ | refine Wit.mk _ (map_getE hy hvy rfl) ?_ | refine Wit.mk _ (map_getE hy hvy w0) ?_ | refine Wit.mk _ (map_getE hx hvx w1) ?_ | refine st ?_ | (first | refine b1 ?_ ?_ | refine b2 ?_ ?_ | refine Br.mk ?_ ?_) <;> intro hc | exact rfl) <;> conv => whnf)
        exact ⟨_, rfl, .inl hv8.symm⟩
    · (conv => whnf); repeat' ((first | refine sAct_fn hm3 hpa hval hpv ?_ | refine sAct_fn hm2 (apure2 hmp hpx) ofx (Bd.pure _) ?_ | refine sAct_fn hm2 (apure2 hmp hpy) ofy (Bd.pure _) ?_ | intro g | refine Wit.mk _ (map_getE hx hvx rfl) ?_ | refine Wit.mk _ (map_getE hy hvy rfl) ?_ | refine Wit.mk _ (map_getE hy hvy w0) ?_ | refine Wit.mk _ (map_getE hx hvx w1) ?_ | refine st ?_ | (first | refine b1 ?_ ?_ | refine b2 ?_ ?_ | refine Br.mk ?_ ?_) <;> intro hc | exact rfl) <;> conv => whnf)
      exact NxtS.mk 2 (by first | omega | (dsimp only; omega)) ⟨by omega, by intro _; first | exact c1 | exact q1 (by omega), by intro _; first | exact c1 | omega⟩ (by (refine ⟨?_, ?_⟩ <;> repeat' (first | exact True.intro | refine ai ?_ | refine And.intro ?_ ?_)))
  · have q1 := q1 (by omega)
    have q2 := q2 (by omega)
    rw [hR3 q1 q2]
    (conv => whnf); repeat' ((first | intro g | refine st ?_ | (first | refine b1 ?_ ?_ | refine b2 ?_ ?_ | refine Br.mk ?_ ?_) <;> intro hc | exact rfl) <;> conv => whnf)
    skip
    refine LoopS.by (fun ((i, L, ce) : Nat × List Ex × Option Nat) => ⟨[(0, .mlit es), (3, .ptr 64 g64 0 0), (4, .ptr 80 g80 0 0), (108, .lit 7 (l.map Ex.v)), (109, vnat (l.map Ex.v).length), (110, vnat i)],
        match ce with
        | none => [(80, ⟨g80, 7, false, false, some [.agg [vi 0, vi 0, vi 0, vi 0, .bool false, .str [], .lit 7 []]]⟩), (64, ⟨g64, 7, false, false, some [.agg [vi 5, vi var, vi val.t, vi val.n, .bool val.b, .str val.s, .nils]]⟩)]
        | some g69 => [(80, ⟨g80, 7, false, false, some [.agg [vi 0, vi 0, vi 0, vi 0, .bool false, .str [], .lit 7 []]]⟩), (64, ⟨g64, 7, false, false, some [.agg [vi 5, vi var, vi val.t, vi val.n, .bool val.b, .str val.s, .sl 69 g69 0 L.length]]⟩), (69, ⟨g69, 7, true, false, some (L.map Ex.v)⟩)]⟩)
      (fun (i, L, ce) => i ≤ l.length ∧ L.length = i ∧ L = (l.take i).map S ∧ (ce = none → L = []) ∧ (0 < i → ce ≠ none)) (fun (i, _) => l.length - i) (0, [], none) (by (refine ⟨?_, ?_⟩ <;> repeat' (first | exact True.intro | refine ai ?_ | refine And.intro ?_ ?_))) ⟨by simp, by simp, by simp, by simp, by simp⟩ ?_
    rintro ⟨i, L, ce⟩ ⟨hi, hL, hLt, hce, hcn⟩
    try dsimp only at hi hL hLt hce hcn
    by_cases hlt : i < l.length
    · obtain ⟨u, hu⟩ : ∃ u, l[i]? = some u := ⟨_, get_lt hlt⟩
      obtain ⟨ru, heu, hru⟩ := ih u (List.mem_of_getElem? hu)
      have hiu := fun r k => hru.imp r k
      have hLn : L ++ [S u] = (l.take (i + 1)).map S := by rw [hLt, List.take_add_one, hu]; simp
      obtain ⟨a9, b9, c9, d9, e9, f9, M9, hv9, hp9⟩ := u.form3
      rw [hv9] at heu
      obtain ⟨a8, b8, c8, d8, e8, f8, M8, hv8, hM8⟩ := (S u).form
      rw [hv8] at hiu
      rcases hM8 with rfl | ⟨us, rfl⟩
      all_goals
        cases ce with
        | none =>
          obtain rfl := hce rfl
          (conv => whnf); repeat' ((first | refine sAct_fnI hm4 (apure2 hmp hp9) heu hiu ?_ | intro g | refine Wit.mk _ (map_getE hu hv9 rfl) ?_ | refine st ?_ | (first | refine b1 ?_ ?_ | refine b2 ?_ ?_ | refine Br.mk ?_ ?_) <;> intro hc | exact rfl) <;> conv => whnf)
          exact NxtS.mk (i + 1, [S u], some g) (by first | omega | (dsimp only; omega)) ⟨(by first | omega | (dsimp only; omega)), by simp at hL ⊢; omega, hLn, by simp, by simp⟩ (by simp only [List.map_cons, List.map_nil, hv8]; (refine ⟨?_, ?_⟩ <;> repeat' (first | exact True.intro | refine ai ?_ | refine And.intro ?_ ?_)))
        | some g69 =>
          (conv => whnf); repeat' ((first | refine sAct_fnI hm4 (apure2 hmp hp9) heu hiu ?_ | intro g | refine Wit.mk _ (map_getE hu hv9 rfl) ?_ | refine st ?_ | (first | refine b1 ?_ ?_ | refine b2 ?_ ?_ | refine Br.mk ?_ ?_) <;> intro hc | exact rfl) <;> conv => whnf)
          exact NxtS.mk (i + 1, L ++ [S u], some g) (by first | omega | (dsimp only; omega)) ⟨(by first | omega | (dsimp only; omega)), by simp; omega, hLn, by simp, by simp⟩ (by simp only [List.map_append, List.map_cons, List.map_nil, hv8]; (refine ⟨?_, ?_⟩ <;> repeat' (first | exact True.intro | refine ai ?_ | refine And.intro ?_ ?_)))
    · have hi' : i = l.length := by omega
      subst hi'
      rw [List.take_length] at hLt
      cases ce with
      | none => exact absurd rfl (hcn hne)
      | some g69 =>
        (conv => whnf); repeat' ((first | intro g | refine Need.mk (⟨by simp, Ex.pures _⟩) ?_ | refine st ?_ | (first | refine b1 ?_ ?_ | refine b2 ?_ ?_ | refine Br.mk ?_ ?_) <;> intro hc | exact rfl) <;> conv => whnf)
        exact ⟨_, rfl, exr_own hne hLt⟩
end Go.AM
set_option maxRecDepth 20000
namespace Go.AM
theorem conE_form {t : Int} {b : Bd} {c : Ex} (h : conE t b = some c) : ∃ v, c = cEx v := by
  unfold conE at h
  split at h
  · split at h
    · split at h
      · exact ⟨_, (Option.some.inj h).symm⟩
      · cases h
    · cases h
  · split at h
    · exact ⟨_, (Option.some.inj h).symm⟩
    · cases h
theorem ty_eq {e : Ex} (h : e.size ≤ 60) : e.ty = e.typ := by simp [Ex.ty]; omega
theorem typ_123 {e : Ex} (h : e.typ ≠ 0) : e.typ = 1 ∨ e.typ = 2 ∨ e.typ = 3 := by
  have key : ∀ (k : Nat) (e : Ex), e.size ≤ k → e.typ ≠ 0 → e.typ = 1 ∨ e.typ = 2 ∨ e.typ = 3 := by
    intro k
    induction k with
    | zero => intro e h; have := e.size_pos; omega
    | succ k ih =>
      intro e hk ht
      obtain ⟨op, var, val, nl, l⟩ := e
      have hsz : (Ex.mk op var val nl l).size = 1 + Ex.sizes l := by simp only [Ex.size]
      rcases typ_cases ht with ⟨rfl, rfl, _, hr, e⟩ | ⟨rfl, rfl, _, hv, e⟩ | ⟨x, rfl, rfl, _, _, hx, e⟩ | ⟨x, y, ho, rfl, _, _, hx, hy, e, e6, e45, e7, e8⟩ | ⟨x, y, z, rfl, rfl, _, _, hx, hy, hz, e⟩
      · rw [e]; exact right_t hr
      · rw [e]
        unfold varT at hv ⊢
        repeat' split
        all_goals first | omega | simp_all
      · omega
      · by_cases h6 : op = 6
        · have := (e6 h6).2; omega
        by_cases h45 : op = 4 ∨ op = 5
        · have := (e45 h45).2.2; omega
        by_cases h7 : op = 7
        · have := (e7 h7).2.2; omega
        · have := (e8 (by omega)).2.2; omega
      · have sx : Ex.sizes [x, y, z] = x.size + (y.size + z.size) := by simp [Ex.sizes]
        rw [e]; exact ih y (by omega) hy
  exact key _ e (Nat.le_refl _) h
set_option maxHeartbeats 1000000 in
theorem sim_con {es : List V} {e : Ex} {t er : Int} {w : Va} {vv : V} (hmp : V.isPure (.mlit es) = true)
    (hch : Ev E 338 [e.v] ⟨.tuple [vi t, vi er], []⟩) (hval : Ev E 387 [.mlit es, e.v, vi t] ⟨vv, []⟩) (hcv : ConV (some (cEx w)) vv) : Ev E 344 [.mlit es, e.v] ⟨(cEx w).v, []⟩ := by
  obtain ⟨Xe, rfl, hX⟩ := hcv
  obtain rfl := hX _ rfl
  have hm1 : modesOf E 338 = [] := rfl
  have hm3 : modesOf E 387 = [] := rfl
  rw [cEx_v] at hval ⊢
  obtain ⟨a, b, c, d, e', f, L, hv, hp⟩ := e.form3
  rw [hv] at hch hval ⊢
  have hpa : V.arePure [.mlit es, .agg [vi a, vi b, vi c, vi d, .bool e', .str f, L], vi t] = true := by simp only [V.arePure, hmp, hp]; rfl
  have hpb : V.arePure [.agg [vi a, vi b, vi c, vi d, .bool e', .str f, L]] = true := by simp only [V.arePure, hp]; rfl
  refine Ev.of_s' E_344 (X_344 _) rfl ?_
  (conv => whnf); repeat' ((first | refine sAct_fn hm1 hpb hch rfl ?_ | refine sAct_fn hm3 hpa hval rfl ?_ | intro g | refine st ?_ | (first | refine b1 ?_ ?_ | refine b2 ?_ ?_ | refine Br.mk ?_ ?_) <;> intro hc | exact rfl) <;> conv => whnf)
set_option maxHeartbeats 1000000 in
theorem sim_leaf {es : List V} {op var : Int} {val : Va} {nl : Bool} {t er : Int} {vv : V} (hop : op = 1 ∨ op = 2) (hmp : V.isPure (.mlit es) = true)
    (hch : Ev E 338 [(Ex.mk op var val nl []).v] ⟨.tuple [vi t, vi er], []⟩) (hval : Ev E 387 [.mlit es, (Ex.mk op var val nl []).v, vi t] ⟨vv, []⟩) (hcv : ConV none vv) : Ev E 344 [.mlit es, (Ex.mk op var val nl []).v] ⟨(Ex.mk op var val true []).v, []⟩ := by
  obtain ⟨Xe, rfl, _⟩ := hcv
  have hm3 : modesOf E 387 = [] := rfl
  obtain ⟨a0, b0, c0, d0, e0, f0, L0, hv0, hp0⟩ := Xe.form3
  rw [hv0] at hval
  have hpv : V.isPure (.tuple [.agg [vi a0, vi b0, vi c0, vi d0, .bool e0, .str f0, L0], .bool (none : Option Ex).isSome]) = true := by
    simp only [V.isPure, V.arePure, Bool.and_eq_true] at hp0 ⊢
    simp [hp0]
  have hpa : ∀ L, V.isPure L = true → V.arePure [.mlit es, .agg [vi op, vi var, vi val.t, vi val.n, .bool val.b, .str val.s, L], vi t] = true := fun L h => by simp [V.arePure, V.isPure, hmp, h] at *; exact hmp
  rw [Ex.v_eq] at hch hval ⊢
  rw [Ex.v_eq]
  have n13 : ¬ op = 13 := by omega
  have n4 : ¬ op = 4 := by omega
  have n5 : ¬ op = 5 := by omega
  cases nl <;> simp only [List.map_nil, lv, cond_true, cond_false] at hch hval ⊢
  all_goals
    refine Ev.of_s' E_344 (X_344 _) rfl ?_
    (conv => whnf); repeat' ((first | refine sAct_fn hm3 (hpa _ rfl) hval hpv ?_ | intro g | refine CallS.mk _ (hch) ?_ | refine st ?_ | (first | refine b1 ?_ ?_ | refine b2 ?_ ?_ | refine Br.mk ?_ ?_) <;> intro hc | exact rfl) <;> conv => whnf)
    rename_i g64 g80
    refine LoopS.by (fun (i : Nat) => ⟨[(3, .ptr 64 g64 0 0), (4, .ptr 80 g80 0 0), (109, vi 0), (110, vi 0)], [(64, ⟨g64, 7, false, false, some [.agg [vi op, vi var, vi val.t, vi val.n, .bool val.b, .str val.s, .nils]]⟩), (80, ⟨g80, 7, false, false, some [.agg [vi 0, vi 0, vi 0, vi 0, .bool false, .str [], .lit 7 []]]⟩)]⟩) (fun i => i = 0) (fun i => 0) 0 (by (refine ⟨?_, ?_⟩ <;> repeat' (first | exact True.intro | refine ai ?_ | refine And.intro ?_ ?_))) rfl ?_
    rintro i rfl
    (conv => whnf); repeat' ((first | intro g | refine st ?_ | (first | refine b1 ?_ ?_ | refine b2 ?_ ?_ | refine Br.mk ?_ ?_) <;> intro hc | exact rfl) <;> conv => whnf)
theorem sim_ev {l0 : List Kno} (hl : KFit l0) : ∀ (k : Nat) (e : Ex), e.size ≤ k → k ≤ 60 → e.Fit → e.typ ≠ 0 → ∃ r, Ev E 344 [.mlit (esOf (factB l0) 9), e.v] ⟨r, []⟩ ∧ ExR (e.sim (factB l0)) r
  | 0, e, h, _, _, _ => by have := e.size_pos; omega
  | k + 1, .mk op var val nl l, h, hk, hf, ht => by
    have hK := factOk hl
    have hmp := esOf_mp (factB l0) 9
    have hsz : (Ex.mk op var val nl l).size = 1 + Ex.sizes l := by simp only [Ex.size]
    have hlen := Ex.length_le l
    have hch := pcheck_ev (Ex.mk op var val nl l) (by omega) hf
    rw [ty_eq (by omega)] at hch
    have hof := of_ev hK _ (Ex.mk op var val nl l) (Nat.le_refl _) (by omega) ht
    obtain ⟨vv, hval, hcv⟩ : ∃ v, Ev E 387 [.mlit (esOf (factB l0) 9), (Ex.mk op var val nl l).v, vi (Ex.mk op var val nl l).typ] ⟨v, []⟩ ∧ ConV (conE (Ex.mk op var val nl l).typ ((Ex.mk op var val nl l).bd (factB l0))) v := by
      obtain ⟨a, b, c, d, e', f, L, hv, hp⟩ := (Ex.mk op var val nl l).form3
      rw [hv] at hof ⊢
      exact value_ev hmp hp hof (typ_123 ht) (bd_str hl _ _ (Nat.le_refl _) hf ht)
    have ih : ∀ x ∈ l, x.typ ≠ 0 → ∃ r, Ev E 344 [.mlit (esOf (factB l0) 9), x.v] ⟨r, []⟩ ∧ ExR (x.sim (factB l0)) r := fun x hx hxt =>
      sim_ev hl k x (by have := Ex.size_mem hx; omega) (by omega) (hf.mem x hx) hxt
    have iof : ∀ x ∈ l, x.typ ≠ 0 → Ev E 340 [.mlit (esOf (factB l0) 9), x.v] ⟨(x.bd (factB l0)).v, []⟩ := fun x hx hxt =>
      of_ev hK _ x (Nat.le_refl _) (by have := Ex.size_mem hx; omega) hxt
    rw [Ex.sim_eq]
    cases hcon : conE (Ex.mk op var val nl l).typ ((Ex.mk op var val nl l).bd (factB l0)) with
    | some c =>
      obtain ⟨w, rfl⟩ := conE_form hcon
      rw [hcon] at hcv
      exact ⟨_, sim_con hmp hch hval hcv, .inl rfl⟩
    | none =>
      rw [hcon] at hcv
      rcases typ_cases ht with ⟨rfl, rfl, _, hr, e⟩ | ⟨rfl, rfl, _, hv, e⟩ | ⟨x, rfl, rfl, _, _, hx, e⟩ | ⟨x, y, ho, rfl, _, _, hx, hy, e⟩ | ⟨x, y, z, rfl, rfl, _, _, hx, hy, hz, e⟩
      · exact ⟨_, sim_leaf (.inl rfl) hmp hch hval hcv, .inl rfl⟩
      · exact ⟨_, sim_leaf (.inr rfl) hmp hch hval hcv, .inl rfl⟩
      · exact sim_0 ⟨by decide, by decide, by decide⟩ (by simp) hmp (by omega) hch hval hcv (fun u hu => ih u hu (by simp at hu; subst hu; omega))
      · have ihh : ∀ u ∈ [x, y], ∃ r, Ev E 344 [.mlit (esOf (factB l0) 9), u.v] ⟨r, []⟩ ∧ ExR (u.sim (factB l0)) r := fun u hu => ih u hu (by simp at hu; rcases hu with rfl | rfl; exact hx; exact hy)
        have ox := iof x (by simp) hx
        have oy := iof y (by simp) hy
        by_cases h4 : op = 4
        · subst h4
          exact sim_4 rfl hmp (by simp) hch hval hcv ox oy ihh
        by_cases h5 : op = 5
        · subst h5
          exact sim_5 rfl hmp (by simp) hch hval hcv ox oy ihh
        · have hR : simHead none op var val ([x, y].map (Ex.bd (factB l0))) ([x, y].map (Ex.sim (factB l0))) = .mk op var val true ([x, y].map (Ex.sim (factB l0))) := by simp [simHead, pick, h4, h5]
          rw [hR]
          exact sim_0 ⟨by omega, h4, h5⟩ (by simp) hmp (by simp) hch hval hcv ihh
      · have ihh : ∀ u ∈ [x, y, z], ∃ r, Ev E 344 [.mlit (esOf (factB l0) 9), u.v] ⟨r, []⟩ ∧ ExR (u.sim (factB l0)) r := fun u hu => ih u hu (by simp at hu; rcases hu with rfl | rfl | rfl; omega; exact hy; omega)
        exact sim_13 rfl hmp (by simp) hch hval hcv (iof x (by simp) (by omega)) (iof y (by simp) hy) (iof z (by simp) (by omega)) ihh
end Go.AM
