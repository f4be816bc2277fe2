/-
  Texts of the proof, joined by program: PSimC13, PSimC0. Own work.
-/
import Derived.Test.YtjmcpijpclfakaaGreatKa
set_option linter.unusedSimpArgs false
set_option linter.unusedVariables false
set_option maxRecDepth 20000
namespace Go.AM
set_option maxHeartbeats 4000000 in
theorem sim_13 {x y z : Ex} {l : List Ex} (hl : l = [x, y, z]) {Bx By Bz : Bd} {es : List V} {S : Ex → Ex} {t er : Int} {val : Va} {var : Int} {nl : Bool} {vv : V} (hmp : V.isPure (.mlit es) = true) (hlen : l.length < 1000000)
    (hch : Ev E 338 [(Ex.mk 13 var val nl l).v] ⟨.tuple [vi t, vi er], []⟩) (hval : Ev E 387 [.mlit es, (Ex.mk 13 var val nl l).v, vi t] ⟨vv, []⟩) (hcv : ConV none vv)
    (ofx : Ev E 340 [.mlit es, x.v] ⟨Bx.v, []⟩) (ofy : Ev E 340 [.mlit es, y.v] ⟨By.v, []⟩) (ofz : Ev E 340 [.mlit es, z.v] ⟨Bz.v, []⟩)
    (ih : ∀ x ∈ l, ∃ r, Ev E 344 [.mlit es, x.v] ⟨r, []⟩ ∧ ExR (S x) r) : ∃ r, Ev E 344 [.mlit es, (Ex.mk 13 var val nl l).v] ⟨r, []⟩ ∧ ExR (simHead none 13 var val [Bx, By, Bz] (l.map S)) r := by
  obtain ⟨Xe, rfl, _⟩ := hcv
  have hm1 : modesOf E 338 = [] := rfl
  have hm2 : modesOf E 340 = [] := rfl
  have hm3 : modesOf E 387 = [] := rfl
  have hm4 : modesOf E 344 = [] := rfl
  obtain ⟨a0, b0, c0, d0, e0, f0, L0, hv0, hp0⟩ := Xe.form3
  rw [hv0] at hval
  have hpv : V.isPure (.tuple [.agg [vi a0, vi b0, vi c0, vi d0, .bool e0, .str f0, L0], .bool (none : Option Ex).isSome]) = true := by
    simp only [V.isPure, V.arePure, Bool.and_eq_true] at hp0 ⊢
    simp [hp0]
  have hne : 0 < l.length := by rw [hl]; simp
  have hll : l.length = 3 := by rw [hl]; rfl
  have lm : (l.map Ex.v).length = 3 := by rw [List.length_map, hll]
  have hx : l[0]? = some x := by rw [hl]; rfl
  obtain ⟨rx, hex, hrx⟩ := ih x (by rw [hl]; simp)
  have hix := fun r k => hrx.imp r k
  obtain ⟨a1x, b1x, c1x, d1x, e1x, f1x, L1x, hvx, hpx⟩ := x.form3
  rw [hvx] at ofx hex
  have hy : l[1]? = some y := by rw [hl]; rfl
  obtain ⟨ry, hey, hry⟩ := ih y (by rw [hl]; simp)
  have hiy := fun r k => hry.imp r k
  obtain ⟨a1y, b1y, c1y, d1y, e1y, f1y, L1y, hvy, hpy⟩ := y.form3
  rw [hvy] at ofy hey
  have hz : l[2]? = some z := by rw [hl]; rfl
  obtain ⟨rz, hez, hrz⟩ := ih z (by rw [hl]; simp)
  have hiz := fun r k => hrz.imp r k
  obtain ⟨a1z, b1z, c1z, d1z, e1z, f1z, L1z, hvz, hpz⟩ := z.form3
  rw [hvz] at ofz hez
  have hlv : lv nl (l.map Ex.v) = .lit 7 (l.map Ex.v) := by
    cases l with
    | nil => simp at hne
    | cons y ys => rfl
  rw [Ex.v_eq, hlv] at hch hval ⊢
  have hpa : V.arePure [.mlit es, .agg [vi 13, vi var, vi val.t, vi val.n, .bool val.b, .str val.s, .lit 7 (l.map Ex.v)], vi t] = true := by simp only [V.arePure, hmp, Bool.true_and]; rfl
  by_cases q1 : Bx.lo = 1
  · have hR : simHead none 13 var val [Bx, By, Bz] (l.map S) = S y := by simp [hl, simHead, pick, q1]
    rw [hR]
    obtain ⟨a8, b8, c8, d8, e8, f8, M8, hv8, hM8⟩ := (S y).form
    rw [hv8] at hiy
    rcases hM8 with rfl | ⟨us, rfl⟩
    all_goals
      refine ⟨_, ?_, .inl rfl⟩
      rw [hv8]
      refine Ev.of_s' E_344 (X_344 _) rfl ?_
      (conv => whnf); repeat' ((first | refine sAct_fn hm3 hpa hval hpv ?_ | refine sAct_fn hm2 (apure2 hmp hpx) ofx (Bd.pure _) ?_ | refine sAct_fn hm2 (apure2 hmp hpy) ofy (Bd.pure _) ?_ | refine sAct_fn hm2 (apure2 hmp hpz) ofz (Bd.pure _) ?_ | refine sAct_fnI hm4 (apure2 hmp hpy) hey hiy ?_ | intro g | refine Wit.mk _ (map_getE hx hvx rfl) ?_ | refine Wit.mk _ (map_getE hy hvy rfl) ?_ | refine Wit.mk _ (map_getE hz hvz rfl) ?_ | refine CallS.mk _ (hch) ?_ | refine st ?_ | (first | refine b1 ?_ ?_ | refine b2 ?_ ?_ | refine Br.mk ?_ ?_) <;> intro hc | exact rfl) <;> conv => whnf)
  by_cases q2 : Bx.hi = 0
  · have hR : simHead none 13 var val [Bx, By, Bz] (l.map S) = S z := by simp [hl, simHead, pick, q1, q2]
    rw [hR]
    obtain ⟨a8, b8, c8, d8, e8, f8, M8, hv8, hM8⟩ := (S z).form
    rw [hv8] at hiz
    rcases hM8 with rfl | ⟨us, rfl⟩
    all_goals
      refine ⟨_, ?_, .inl rfl⟩
      rw [hv8]
      refine Ev.of_s' E_344 (X_344 _) rfl ?_
      (conv => whnf); repeat' ((first | refine sAct_fn hm3 hpa hval hpv ?_ | refine sAct_fn hm2 (apure2 hmp hpx) ofx (Bd.pure _) ?_ | refine sAct_fn hm2 (apure2 hmp hpy) ofy (Bd.pure _) ?_ | refine sAct_fn hm2 (apure2 hmp hpz) ofz (Bd.pure _) ?_ | refine sAct_fnI hm4 (apure2 hmp hpz) hez hiz ?_ | intro g | refine Wit.mk _ (map_getE hx hvx rfl) ?_ | refine Wit.mk _ (map_getE hy hvy rfl) ?_ | refine Wit.mk _ (map_getE hz hvz rfl) ?_ | refine CallS.mk _ (hch) ?_ | refine st ?_ | (first | refine b1 ?_ ?_ | refine b2 ?_ ?_ | refine Br.mk ?_ ?_) <;> intro hc | exact rfl) <;> conv => whnf)
  have hR : simHead none 13 var val [Bx, By, Bz] (l.map S) = Ex.mk 13 var val true (l.map S) := by simp [hl, simHead, pick, q1, q2]
  rw [hR]
  refine evex ?_
  refine Ev.of_s (R := fun r => ∃ v, r = ⟨v, []⟩ ∧ ExR (Ex.mk 13 var val true (l.map S)) v) E_344 (X_344 _) rfl ?_
  (conv => whnf); repeat' ((first | refine sAct_fn hm3 hpa hval hpv ?_ | refine sAct_fn hm2 (apure2 hmp hpx) ofx (Bd.pure _) ?_ | refine sAct_fn hm2 (apure2 hmp hpy) ofy (Bd.pure _) ?_ | refine sAct_fn hm2 (apure2 hmp hpz) ofz (Bd.pure _) ?_ | intro g | refine Wit.mk _ (map_getE hx hvx rfl) ?_ | refine Wit.mk _ (map_getE hy hvy rfl) ?_ | refine Wit.mk _ (map_getE hz hvz rfl) ?_ | refine CallS.mk _ (hch) ?_ | refine st ?_ | (first | refine b1 ?_ ?_ | refine b2 ?_ ?_ | refine Br.mk ?_ ?_) <;> intro hc | exact rfl) <;> conv => whnf)
  rename_i G64 G80 g128
  obtain ⟨g64, hg64⟩ : ∃ x, x = G64 := ⟨_, rfl⟩
  obtain ⟨g80, hg80⟩ : ∃ x, x = G80 := ⟨_, rfl⟩
  rw [← hg64, ← hg80]; clear hg64 hg80
  refine LoopS.by (fun ((i, L, ce) : Nat × List Ex × Option Nat) => ⟨[(0, .mlit es), (3, .ptr 64 g64 0 0), (4, .ptr 80 g80 0 0), (108, .lit 7 (l.map Ex.v)), (109, vnat (l.map Ex.v).length), (110, vnat i)],
      match ce with
      | none => [(80, ⟨g80, 7, false, false, some [.agg [vi 0, vi 0, vi 0, vi 0, .bool false, .str [], .lit 7 []]]⟩), (64, ⟨g64, 7, false, false, some [.agg [vi 13, vi var, vi val.t, vi val.n, .bool val.b, .str val.s, .nils]]⟩)]
      | some g69 => [(80, ⟨g80, 7, false, false, some [.agg [vi 0, vi 0, vi 0, vi 0, .bool false, .str [], .lit 7 []]]⟩), (64, ⟨g64, 7, false, false, some [.agg [vi 13, vi var, vi val.t, vi val.n, .bool val.b, .str val.s, .sl 69 g69 0 L.length]]⟩), (69, ⟨g69, 7, true, false, some (L.map Ex.v)⟩)]⟩)
    (fun (i, L, ce) => i ≤ l.length ∧ L.length = i ∧ L = (l.take i).map S ∧ (ce = none → L = []) ∧ (0 < i → ce ≠ none)) (fun (i, _) => l.length - i) (0, [], none) (by (refine ⟨?_, ?_⟩ <;> repeat' (first | exact True.intro | refine ai ?_ | refine And.intro ?_ ?_))) ⟨by simp, by simp, by simp, by simp, by simp⟩ ?_
  rintro ⟨i, L, ce⟩ ⟨hi, hL, hLt, hce, hcn⟩
  try dsimp only at hi hL hLt hce hcn
  by_cases hlt : i < l.length
  · obtain ⟨u, hu⟩ : ∃ u, l[i]? = some u := ⟨_, get_lt hlt⟩
    obtain ⟨ru, heu, hru⟩ := ih u (List.mem_of_getElem? hu)
    have hiu := fun r k => hru.imp r k
    have hLn : L ++ [S u] = (l.take (i + 1)).map S := by rw [hLt, List.take_add_one, hu]; simp
    obtain ⟨a9, b9, c9, d9, e9, f9, M9, hv9, hp9⟩ := u.form3
    rw [hv9] at heu
    obtain ⟨a8, b8, c8, d8, e8, f8, M8, hv8, hM8⟩ := (S u).form
    rw [hv8] at hiu
    rcases hM8 with rfl | ⟨us, rfl⟩
    all_goals
      cases ce with
      | none =>
        obtain rfl := hce rfl
        (conv => whnf); repeat' ((first | refine sAct_fnI hm4 (apure2 hmp hp9) heu hiu ?_ | intro g | refine Wit.mk _ (map_getE hu hv9 rfl) ?_ | refine st ?_ | (first | refine b1 ?_ ?_ | refine b2 ?_ ?_ | refine Br.mk ?_ ?_) <;> intro hc | exact rfl) <;> conv => whnf)
        exact NxtS.mk (i + 1, [S u], some g) (by first | omega | (dsimp only; omega)) ⟨(by first | omega | (dsimp only; omega)), by simp at hL ⊢; omega, hLn, by simp, by simp⟩ (by simp only [List.map_cons, List.map_nil, hv8]; (refine ⟨?_, ?_⟩ <;> repeat' (first | exact True.intro | refine ai ?_ | refine And.intro ?_ ?_)))
      | some g69 =>
        (conv => whnf); repeat' ((first | refine sAct_fnI hm4 (apure2 hmp hp9) heu hiu ?_ | intro g | refine Wit.mk _ (map_getE hu hv9 rfl) ?_ | refine st ?_ | (first | refine b1 ?_ ?_ | refine b2 ?_ ?_ | refine Br.mk ?_ ?_) <;> intro hc | exact rfl) <;> conv => whnf)
        exact NxtS.mk (i + 1, L ++ [S u], some g) (by first | omega | (dsimp only; omega)) ⟨(by first | omega | (dsimp only; omega)), by simp; omega, hLn, by simp, by simp⟩ (by simp only [List.map_append, List.map_cons, List.map_nil, hv8]; (refine ⟨?_, ?_⟩ <;> repeat' (first | exact True.intro | refine ai ?_ | refine And.intro ?_ ?_)))
  · have hi' : i = l.length := by omega
    subst hi'
    rw [List.take_length] at hLt
    cases ce with
    | none => exact absurd rfl (hcn hne)
    | some g69 =>
      (conv => whnf); repeat' ((first | intro g | refine Need.mk (⟨by simp, Ex.pures _⟩) ?_ | refine st ?_ | (first | refine b1 ?_ ?_ | refine b2 ?_ ?_ | refine Br.mk ?_ ?_) <;> intro hc | exact rfl) <;> conv => whnf)
      exact ⟨_, rfl, exr_own hne hLt⟩
end Go.AM
set_option maxRecDepth 20000
namespace Go.AM
set_option maxHeartbeats 4000000 in
theorem sim_0 {op : Int} (hop : op ≠ 13 ∧ op ≠ 4 ∧ op ≠ 5) {l : List Ex} (hne0 : l ≠ []) {es : List V} {S : Ex → Ex} {t er : Int} {val : Va} {var : Int} {nl : Bool} {vv : V} (hmp : V.isPure (.mlit es) = true) (hlen : l.length < 1000000)
    (hch : Ev E 338 [(Ex.mk op var val nl l).v] ⟨.tuple [vi t, vi er], []⟩) (hval : Ev E 387 [.mlit es, (Ex.mk op var val nl l).v, vi t] ⟨vv, []⟩) (hcv : ConV none vv)
    (ih : ∀ x ∈ l, ∃ r, Ev E 344 [.mlit es, x.v] ⟨r, []⟩ ∧ ExR (S x) r) : ∃ r, Ev E 344 [.mlit es, (Ex.mk op var val nl l).v] ⟨r, []⟩ ∧ ExR (Ex.mk op var val true (l.map S)) r := by
  obtain ⟨Xe, rfl, _⟩ := hcv
  have hm1 : modesOf E 338 = [] := rfl
  have hm2 : modesOf E 340 = [] := rfl
  have hm3 : modesOf E 387 = [] := rfl
  have hm4 : modesOf E 344 = [] := rfl
  obtain ⟨a0, b0, c0, d0, e0, f0, L0, hv0, hp0⟩ := Xe.form3
  rw [hv0] at hval
  have hpv : V.isPure (.tuple [.agg [vi a0, vi b0, vi c0, vi d0, .bool e0, .str f0, L0], .bool (none : Option Ex).isSome]) = true := by
    simp only [V.isPure, V.arePure, Bool.and_eq_true] at hp0 ⊢
    simp [hp0]
  have hne : 0 < l.length := by cases l with | nil => exact absurd rfl hne0 | cons => simp
  have lm : (l.map Ex.v).length = l.length := List.length_map ..
  have n13 : ¬ op = 13 := by omega
  have n4 : ¬ op = 4 := by omega
  have n5 : ¬ op = 5 := by omega
  have hlv : lv nl (l.map Ex.v) = .lit 7 (l.map Ex.v) := by
    cases l with
    | nil => simp at hne
    | cons y ys => rfl
  rw [Ex.v_eq, hlv] at hch hval ⊢
  have hpa : V.arePure [.mlit es, .agg [vi op, vi var, vi val.t, vi val.n, .bool val.b, .str val.s, .lit 7 (l.map Ex.v)], vi t] = true := by simp only [V.arePure, hmp, Bool.true_and]; rfl
  refine evex ?_
  refine Ev.of_s (R := fun r => ∃ v, r = ⟨v, []⟩ ∧ ExR (Ex.mk op var val true (l.map S)) v) E_344 (X_344 _) rfl ?_
  (conv => whnf); repeat' ((first | refine sAct_fn hm3 hpa hval hpv ?_ | intro g | refine CallS.mk _ (hch) ?_ | refine st ?_ | (first | refine b1 ?_ ?_ | refine b2 ?_ ?_ | refine Br.mk ?_ ?_) <;> intro hc | exact rfl) <;> conv => whnf)
  rename_i G64 G80
  obtain ⟨g64, hg64⟩ : ∃ x, x = G64 := ⟨_, rfl⟩
  obtain ⟨g80, hg80⟩ : ∃ x, x = G80 := ⟨_, rfl⟩
  rw [← hg64, ← hg80]; clear hg64 hg80
  refine LoopS.by (fun ((i, L, ce) : Nat × List Ex × Option Nat) => ⟨[(0, .mlit es), (3, .ptr 64 g64 0 0), (4, .ptr 80 g80 0 0), (108, .lit 7 (l.map Ex.v)), (109, vnat (l.map Ex.v).length), (110, vnat i)],
      match ce with
      | none => [(80, ⟨g80, 7, false, false, some [.agg [vi 0, vi 0, vi 0, vi 0, .bool false, .str [], .lit 7 []]]⟩), (64, ⟨g64, 7, false, false, some [.agg [vi op, vi var, vi val.t, vi val.n, .bool val.b, .str val.s, .nils]]⟩)]
      | some g69 => [(80, ⟨g80, 7, false, false, some [.agg [vi 0, vi 0, vi 0, vi 0, .bool false, .str [], .lit 7 []]]⟩), (64, ⟨g64, 7, false, false, some [.agg [vi op, vi var, vi val.t, vi val.n, .bool val.b, .str val.s, .sl 69 g69 0 L.length]]⟩), (69, ⟨g69, 7, true, false, some (L.map Ex.v)⟩)]⟩)
    (fun (i, L, ce) => i ≤ l.length ∧ L.length = i ∧ L = (l.take i).map S ∧ (ce = none → L = []) ∧ (0 < i → ce ≠ none)) (fun (i, _) => l.length - i) (0, [], none) (by (refine ⟨?_, ?_⟩ <;> repeat' (first | exact True.intro | refine ai ?_ | refine And.intro ?_ ?_))) ⟨by simp, by simp, by simp, by simp, by simp⟩ ?_
  rintro ⟨i, L, ce⟩ ⟨hi, hL, hLt, hce, hcn⟩
  try dsimp only at hi hL hLt hce hcn
  by_cases hlt : i < l.length
  · obtain ⟨u, hu⟩ : ∃ u, l[i]? = some u := ⟨_, get_lt hlt⟩
    obtain ⟨ru, heu, hru⟩ := ih u (List.mem_of_getElem? hu)
    have hiu := fun r k => hru.imp r k
    have hLn : L ++ [S u] = (l.take (i + 1)).map S := by rw [hLt, List.take_add_one, hu]; simp
    obtain ⟨a9, b9, c9, d9, e9, f9, M9, hv9, hp9⟩ := u.form3
    rw [hv9] at heu
    obtain ⟨a8, b8, c8, d8, e8, f8, M8, hv8, hM8⟩ := (S u).form
    rw [hv8] at hiu
    rcases hM8 with rfl | ⟨us, rfl⟩
    all_goals
      cases ce with
      | none =>
        obtain rfl := hce rfl
        (conv => whnf); repeat' ((first | refine sAct_fnI hm4 (apure2 hmp hp9) heu hiu ?_ | intro g | refine Wit.mk _ (map_getE hu hv9 rfl) ?_ | refine st ?_ | (first | refine b1 ?_ ?_ | refine b2 ?_ ?_ | refine Br.mk ?_ ?_) <;> intro hc | exact rfl) <;> conv => whnf)
        exact NxtS.mk (i + 1, [S u], some g) (by first | omega | (dsimp only; omega)) ⟨(by first | omega | (dsimp only; omega)), by simp at hL ⊢; omega, hLn, by simp, by simp⟩ (by simp only [List.map_cons, List.map_nil, hv8]; (refine ⟨?_, ?_⟩ <;> repeat' (first | exact True.intro | refine ai ?_ | refine And.intro ?_ ?_)))
      | some g69 =>
        (conv => whnf); repeat' ((first | refine sAct_fnI hm4 (apure2 hmp hp9) heu hiu ?_ | intro g | refine Wit.mk _ (map_getE hu hv9 rfl) ?_ | refine st ?_ | (first | refine b1 ?_ ?_ | refine b2 ?_ ?_ | refine Br.mk ?_ ?_) <;> intro hc | exact rfl) <;> conv => whnf)
        exact NxtS.mk (i + 1, L ++ [S u], some g) (by first | omega | (dsimp only; omega)) ⟨(by first | omega | (dsimp only; omega)), by simp; omega, hLn, by simp, by simp⟩ (by simp only [List.map_append, List.map_cons, List.map_nil, hv8]; (refine ⟨?_, ?_⟩ <;> repeat' (first | exact True.intro | refine ai ?_ | refine And.intro ?_ ?_)))
  · have hi' : i = l.length := by omega
    subst hi'
    rw [List.take_length] at hLt
    cases ce with
    | none => exact absurd rfl (hcn hne)
    | some g69 =>
      (conv => whnf); repeat' ((first | intro g | refine Need.mk (⟨by simp, Ex.pures _⟩) ?_ | refine st ?_ | (first | refine b1 ?_ ?_ | refine b2 ?_ ?_ | refine Br.mk ?_ ?_) <;> intro hc | exact rfl) <;> conv => whnf)
      exact ⟨_, rfl, exr_own hne hLt⟩
end Go.AM
