/-
  Texts of the proof, joined by program: PSimR5n, PSimR5l. Own work.
-/
import Derived.Test.YtjmcpijpclfakaaGreatKa
import Derived.Test.YtjmcpijpclfakaaGreatB
set_option linter.unusedSimpArgs false
set_option linter.unusedVariables false
set_option maxRecDepth 20000
namespace Go.AM
set_option maxHeartbeats 4000000 in
theorem simr_5n {x y : Ex} {l : List Ex} (hl : l = [x, y]) {Bx By : Bd} {sv : V} {S : Ex → Ex} {t : Int} {val : Va} {var : Int} {nl : Bool} {vv : V} (hsv : Sv sv) (hlen : l.length < 1000000)
    (hch : Ev E 341 [(Ex.mk 5 var val nl l).v] ⟨.tuple [vi t, vi 0], []⟩) (hval : Ev E 345 [(Ex.mk 5 var val nl l).v, vi t, sv] ⟨vv, []⟩) (hcv : ConV none vv)
    (hcp : Ev E 334 [(Ex.mk 5 var val nl l).v] ⟨(Ex.mk 5 var val nl l).norm.ov, []⟩)
    (ofx : Ev E 342 [x.v, sv] ⟨.tuple [vi Bx.lo, vi Bx.hi], []⟩) (ofy : Ev E 342 [y.v, sv] ⟨.tuple [vi By.lo, vi By.hi], []⟩)
    (ih : ∀ x ∈ l, ∃ r, Ev E 321 [x.v, sv] ⟨r, []⟩ ∧ ExR (S x) r) (q1 : ¬ Bx.hi = 0) (q2 : ¬ By.hi = 0) (hs0 : sv = .nils) : ∃ r, Ev E 321 [(Ex.mk 5 var val nl l).v, sv] ⟨r, []⟩ ∧ ExR (simHead none 5 var val [Bx, By] (l.map S)) r := by
  obtain ⟨Xe, rfl, _⟩ := hcv
  have hm2 : modesOf E 342 = [] := rfl
  have hm3 : modesOf E 345 = [] := rfl
  have hm4 : modesOf E 321 = [] := rfl
  obtain ⟨a0, b0, c0, d0, e0, f0, L0, hv0, hp0⟩ := Xe.form3
  rw [hv0] at hval
  have hpv : V.isPure (.tuple [.agg [vi a0, vi b0, vi c0, vi d0, .bool e0, .str f0, L0], .bool (none : Option Ex).isSome]) = true := by
    simp only [V.isPure, V.arePure, Bool.and_eq_true] at hp0 ⊢
    simp [hp0]
  have hne : 0 < l.length := by rw [hl]; simp
  have hll : l.length = 2 := by rw [hl]; rfl
  have lm : (l.map Ex.v).length = 2 := by rw [List.length_map, hll]
  have hx : l[0]? = some x := by rw [hl]; rfl
  obtain ⟨rx, hex, hrx⟩ := ih x (by rw [hl]; simp)
  have hix := fun r k => hrx.imp r k
  obtain ⟨a1x, b1x, c1x, d1x, e1x, f1x, L1x, hvx, hpx⟩ := x.form3
  rw [hvx] at ofx hex
  have hy : l[1]? = some y := by rw [hl]; rfl
  obtain ⟨ry, hey, hry⟩ := ih y (by rw [hl]; simp)
  have hiy := fun r k => hry.imp r k
  obtain ⟨a1y, b1y, c1y, d1y, e1y, f1y, L1y, hvy, hpy⟩ := y.form3
  rw [hvy] at ofy hey
  have hlv : lv nl (l.map Ex.v) = .lit 7 (l.map Ex.v) := by
    cases l with
    | nil => simp at hne
    | cons y ys => rfl
  have hov : (Ex.mk 5 var val nl l).norm.ov = .agg [vi 5, vi var, vi val.t, vi val.n, .bool val.b, .str val.s, .own 7 ((l.map Ex.norm).map Ex.v)] := by
    cases l with
    | nil => simp at hne
    | cons y ys => simp only [Ex.norm, Ex.norms_eq, Ex.ov]; rfl
  rw [hov] at hcp
  rw [Ex.v_eq, hlv] at hch hval hcp ⊢
  have hpa : ∀ w, V.isPure w = true → V.arePure [.agg [vi 5, vi var, vi val.t, vi val.n, .bool val.b, .str val.s, .lit 7 (l.map Ex.v)], vi t, w] = true := fun w h => by simp only [V.arePure, h, Bool.and_self, Bool.and_true]; rfl
  have hR : simHead none 5 var val [Bx, By] (l.map S) = Ex.mk 5 var val true (l.map S) := by simp [hl, simHead, pick, q1, q2]
  rw [hR]
  subst hs0
  refine evex ?_
  refine Ev.of_s (R := fun r => ∃ v, r = ⟨v, []⟩ ∧ ExR (Ex.mk 5 var val true (l.map S)) v) E_321 (X_321 _) rfl ?_
  (conv => whnf); repeat' ((first | intro g | refine Wit.mk _ (map_getE hx hvx rfl) ?_ | refine Wit.mk _ (map_getE hy hvy rfl) ?_ | refine CallS.mk _ (hch) ?_ | refine CallS.mk _ (hcp) ?_ | refine st ?_ | (first | refine b1 ?_ ?_ | refine b2 ?_ ?_ | refine Br.mk ?_ ?_) <;> intro hc | exact rfl | ((refine CallS.mk _ hval ?_; simp only [putOuts2, importRes2, hpv, cond_true, List.append_nil])) | refine sAct_fn hm2 (apure2 hpx rfl) ofx rfl ?_ | refine sAct_fn hm2 (apure2 hpy rfl) ofy rfl ?_) <;> conv => whnf)
  rename_i g48 g80 g128 gA
  obtain ⟨g160, hg160⟩ : ∃ x, x = g := ⟨_, rfl⟩
  rw [← hg160]; clear hg160
  refine LoopS.by (fun ((i, L) : Nat × List Ex) => ⟨[(1, .nils), (2, .ptr 48 g48 0 0), (4, .ptr 80 g80 0 0), (9, .ptr 160 g160 0 0), (12, vnat i)],
      [(80, ⟨g80, 7, false, false, some [.agg [vi 0, vi 0, vi 0, vi 0, .bool false, .str [], .lit 7 []]]⟩), (48, ⟨g48, 7, false, false, some [.agg [vi 5, vi var, vi val.t, vi val.n, .bool val.b, .str val.s, .lit 7 (l.map Ex.v)]]⟩), (160, ⟨g160, 7, false, false, some [.agg [vi 5, vi var, vi val.t, vi val.n, .bool val.b, .str val.s, .sl 534 gA 0 l.length]]⟩), (534, ⟨gA, 7, true, false, some (L.map Ex.v)⟩)]⟩)
    (fun (i, L) => i ≤ l.length ∧ L = (l.take i).map S ++ (l.drop i).map Ex.norm) (fun (i, _) => l.length - i) (0, l.map Ex.norm) (by (refine ⟨?_, ?_⟩ <;> repeat' (first | exact True.intro | refine ai ?_ | refine And.intro ?_ ?_))) ⟨by simp, by simp⟩ ?_
  rintro ⟨i, L⟩ ⟨hi, hL⟩
  try dsimp only at hi hL
  have hLl : L.length = l.length := by rw [hL]; simp; omega
  have lmL : (L.map Ex.v).length = l.length := by rw [List.length_map, hLl]
  by_cases hlt : i < l.length
  · obtain ⟨u, hu⟩ : ∃ u, l[i]? = some u := ⟨_, get_lt hlt⟩
    obtain ⟨ru, heu, hru⟩ := ih u (List.mem_of_getElem? hu)
    have hiu := fun r k => hru.imp r k
    have hLn : L.set i (S u) = (l.take (i + 1)).map S ++ (l.drop (i + 1)).map Ex.norm := by
      have h1 : (l.drop i).map Ex.norm = u.norm :: (l.drop (i + 1)).map Ex.norm := by
        rw [List.drop_eq_getElem_cons hlt, List.map_cons]
        congr 2
        exact (List.getElem?_eq_some_iff.1 hu).2
      rw [hL, h1, List.take_add_one, hu, List.set_append_right _ _ (by simp; omega)]
      simp
      rw [show i - min i l.length = 0 by omega]
      rfl
    obtain ⟨u0, hu0⟩ : ∃ u0, L[i]? = some u0 := ⟨_, get_lt (by omega)⟩
    obtain ⟨a7, b7, c7, d7, e7, f7, M7, hv7, hp7⟩ := u0.form3
    obtain ⟨a9, b9, c9, d9, e9, f9, M9, hv9, hp9⟩ := u.form3
    rw [hv9] at heu
    obtain ⟨a8, b8, c8, d8, e8, f8, M8, hv8, hM8⟩ := (S u).form
    rw [hv8] at hiu
    have e1 : ∀ w, (S u).v = w → (⟨gA, 7, true, false, some ((L.map Ex.v).set ((i : Nat) : Int).toNat w)⟩ : Obj) = ⟨gA, 7, true, false, some ((L.set i (S u)).map Ex.v)⟩ := fun w hw => by rw [← hw]; simp [List.map_set]
    rcases hM8 with rfl | ⟨us, rfl⟩
    all_goals
      (conv => whnf); repeat' ((first | intro g | refine Wit.mk _ (map_getE hu hv9 rfl) ?_ | refine Wit.mk _ (map_getE hu0 hv7 rfl) ?_ | refine st ?_ | (first | refine b1 ?_ ?_ | refine b2 ?_ ?_ | refine Br.mk ?_ ?_) <;> intro hc | exact rfl | refine sAct_fnI hm4 (apure2 hp9 rfl) heu hiu ?_) <;> conv => whnf)
      exact NxtS.mk (i + 1, L.set i (S u)) (by first | omega | (dsimp only; omega)) ⟨(by first | omega | (dsimp only; omega)), hLn⟩ (by (refine ⟨?_, ?_⟩ <;> repeat' (first | exact True.intro | refine And.intro (e1 _ hv8) ?_ | refine ai ?_ | refine And.intro ?_ ?_)))
  · have hi' : i = l.length := by omega
    subst hi'
    rw [List.take_length, List.drop_length, List.map_nil, List.append_nil] at hL
    have hLt : 0 + l.length ≤ (L.map Ex.v).length := by rw [lmL]; omega
    (conv => whnf); repeat' ((first | intro g | refine Need.mk (⟨hLt, Ex.pures _⟩) ?_ | refine st ?_ | (first | refine b1 ?_ ?_ | refine b2 ?_ ?_ | refine Br.mk ?_ ?_) <;> intro hc | exact rfl) <;> conv => whnf)
    exact ⟨_, rfl, exr_own hne hL⟩
end Go.AM
set_option maxRecDepth 20000
namespace Go.AM
set_option maxHeartbeats 4000000 in
theorem simr_5l {x y : Ex} {l : List Ex} (hl : l = [x, y]) {Bx By : Bd} {sv : V} {S : Ex → Ex} {t : Int} {val : Va} {var : Int} {nl : Bool} {vv : V} (hsv : Sv sv) (hlen : l.length < 1000000)
    (hch : Ev E 341 [(Ex.mk 5 var val nl l).v] ⟨.tuple [vi t, vi 0], []⟩) (hval : Ev E 345 [(Ex.mk 5 var val nl l).v, vi t, sv] ⟨vv, []⟩) (hcv : ConV none vv)
    (hcp : Ev E 334 [(Ex.mk 5 var val nl l).v] ⟨(Ex.mk 5 var val nl l).norm.ov, []⟩)
    (ofx : Ev E 342 [x.v, sv] ⟨.tuple [vi Bx.lo, vi Bx.hi], []⟩) (ofy : Ev E 342 [y.v, sv] ⟨.tuple [vi By.lo, vi By.hi], []⟩)
    (ih : ∀ x ∈ l, ∃ r, Ev E 321 [x.v, sv] ⟨r, []⟩ ∧ ExR (S x) r) (q1 : ¬ Bx.hi = 0) (q2 : ¬ By.hi = 0) {ks : List V} (hs0 : sv = .lit 4 ks) : ∃ r, Ev E 321 [(Ex.mk 5 var val nl l).v, sv] ⟨r, []⟩ ∧ ExR (simHead none 5 var val [Bx, By] (l.map S)) r := by
  obtain ⟨Xe, rfl, _⟩ := hcv
  have hm2 : modesOf E 342 = [] := rfl
  have hm3 : modesOf E 345 = [] := rfl
  have hm4 : modesOf E 321 = [] := rfl
  obtain ⟨a0, b0, c0, d0, e0, f0, L0, hv0, hp0⟩ := Xe.form3
  rw [hv0] at hval
  have hpv : V.isPure (.tuple [.agg [vi a0, vi b0, vi c0, vi d0, .bool e0, .str f0, L0], .bool (none : Option Ex).isSome]) = true := by
    simp only [V.isPure, V.arePure, Bool.and_eq_true] at hp0 ⊢
    simp [hp0]
  have hne : 0 < l.length := by rw [hl]; simp
  have hll : l.length = 2 := by rw [hl]; rfl
  have lm : (l.map Ex.v).length = 2 := by rw [List.length_map, hll]
  have hx : l[0]? = some x := by rw [hl]; rfl
  obtain ⟨rx, hex, hrx⟩ := ih x (by rw [hl]; simp)
  have hix := fun r k => hrx.imp r k
  obtain ⟨a1x, b1x, c1x, d1x, e1x, f1x, L1x, hvx, hpx⟩ := x.form3
  rw [hvx] at ofx hex
  have hy : l[1]? = some y := by rw [hl]; rfl
  obtain ⟨ry, hey, hry⟩ := ih y (by rw [hl]; simp)
  have hiy := fun r k => hry.imp r k
  obtain ⟨a1y, b1y, c1y, d1y, e1y, f1y, L1y, hvy, hpy⟩ := y.form3
  rw [hvy] at ofy hey
  have hlv : lv nl (l.map Ex.v) = .lit 7 (l.map Ex.v) := by
    cases l with
    | nil => simp at hne
    | cons y ys => rfl
  have hov : (Ex.mk 5 var val nl l).norm.ov = .agg [vi 5, vi var, vi val.t, vi val.n, .bool val.b, .str val.s, .own 7 ((l.map Ex.norm).map Ex.v)] := by
    cases l with
    | nil => simp at hne
    | cons y ys => simp only [Ex.norm, Ex.norms_eq, Ex.ov]; rfl
  rw [hov] at hcp
  rw [Ex.v_eq, hlv] at hch hval hcp ⊢
  have hpa : ∀ w, V.isPure w = true → V.arePure [.agg [vi 5, vi var, vi val.t, vi val.n, .bool val.b, .str val.s, .lit 7 (l.map Ex.v)], vi t, w] = true := fun w h => by simp only [V.arePure, h, Bool.and_self, Bool.and_true]; rfl
  have hR : simHead none 5 var val [Bx, By] (l.map S) = Ex.mk 5 var val true (l.map S) := by simp [hl, simHead, pick, q1, q2]
  rw [hR]
  subst hs0
  refine evex ?_
  refine Ev.of_s (R := fun r => ∃ v, r = ⟨v, []⟩ ∧ ExR (Ex.mk 5 var val true (l.map S)) v) E_321 (X_321 _) rfl ?_
  (conv => whnf); repeat' ((first | intro g | refine Wit.mk _ (map_getE hx hvx rfl) ?_ | refine Wit.mk _ (map_getE hy hvy rfl) ?_ | refine CallS.mk _ (hch) ?_ | refine CallS.mk _ (hcp) ?_ | refine st ?_ | (first | refine b1 ?_ ?_ | refine b2 ?_ ?_ | refine Br.mk ?_ ?_) <;> intro hc | exact rfl | ((refine CallS.mk _ hval ?_; simp only [putOuts2, importRes2, hpv, cond_true, List.append_nil])) | refine sAct_fn hm2 (apure2 hpx rfl) ofx rfl ?_ | refine sAct_fn hm2 (apure2 hpy rfl) ofy rfl ?_) <;> conv => whnf)
  rename_i g48 g80 g128 gA
  obtain ⟨g160, hg160⟩ : ∃ x, x = g := ⟨_, rfl⟩
  rw [← hg160]; clear hg160
  refine LoopS.by (fun ((i, L) : Nat × List Ex) => ⟨[(1, .lit 4 ks), (2, .ptr 48 g48 0 0), (4, .ptr 80 g80 0 0), (9, .ptr 160 g160 0 0), (12, vnat i)],
      [(80, ⟨g80, 7, false, false, some [.agg [vi 0, vi 0, vi 0, vi 0, .bool false, .str [], .lit 7 []]]⟩), (48, ⟨g48, 7, false, false, some [.agg [vi 5, vi var, vi val.t, vi val.n, .bool val.b, .str val.s, .lit 7 (l.map Ex.v)]]⟩), (160, ⟨g160, 7, false, false, some [.agg [vi 5, vi var, vi val.t, vi val.n, .bool val.b, .str val.s, .sl 534 gA 0 l.length]]⟩), (534, ⟨gA, 7, true, false, some (L.map Ex.v)⟩)]⟩)
    (fun (i, L) => i ≤ l.length ∧ L = (l.take i).map S ++ (l.drop i).map Ex.norm) (fun (i, _) => l.length - i) (0, l.map Ex.norm) (by (refine ⟨?_, ?_⟩ <;> repeat' (first | exact True.intro | refine ai ?_ | refine And.intro ?_ ?_))) ⟨by simp, by simp⟩ ?_
  rintro ⟨i, L⟩ ⟨hi, hL⟩
  try dsimp only at hi hL
  have hLl : L.length = l.length := by rw [hL]; simp; omega
  have lmL : (L.map Ex.v).length = l.length := by rw [List.length_map, hLl]
  by_cases hlt : i < l.length
  · obtain ⟨u, hu⟩ : ∃ u, l[i]? = some u := ⟨_, get_lt hlt⟩
    obtain ⟨ru, heu, hru⟩ := ih u (List.mem_of_getElem? hu)
    have hiu := fun r k => hru.imp r k
    have hLn : L.set i (S u) = (l.take (i + 1)).map S ++ (l.drop (i + 1)).map Ex.norm := by
      have h1 : (l.drop i).map Ex.norm = u.norm :: (l.drop (i + 1)).map Ex.norm := by
        rw [List.drop_eq_getElem_cons hlt, List.map_cons]
        congr 2
        exact (List.getElem?_eq_some_iff.1 hu).2
      rw [hL, h1, List.take_add_one, hu, List.set_append_right _ _ (by simp; omega)]
      simp
      rw [show i - min i l.length = 0 by omega]
      rfl
    obtain ⟨u0, hu0⟩ : ∃ u0, L[i]? = some u0 := ⟨_, get_lt (by omega)⟩
    obtain ⟨a7, b7, c7, d7, e7, f7, M7, hv7, hp7⟩ := u0.form3
    obtain ⟨a9, b9, c9, d9, e9, f9, M9, hv9, hp9⟩ := u.form3
    rw [hv9] at heu
    obtain ⟨a8, b8, c8, d8, e8, f8, M8, hv8, hM8⟩ := (S u).form
    rw [hv8] at hiu
    have e1 : ∀ w, (S u).v = w → (⟨gA, 7, true, false, some ((L.map Ex.v).set ((i : Nat) : Int).toNat w)⟩ : Obj) = ⟨gA, 7, true, false, some ((L.set i (S u)).map Ex.v)⟩ := fun w hw => by rw [← hw]; simp [List.map_set]
    rcases hM8 with rfl | ⟨us, rfl⟩
    all_goals
      (conv => whnf); repeat' ((first | intro g | refine Wit.mk _ (map_getE hu hv9 rfl) ?_ | refine Wit.mk _ (map_getE hu0 hv7 rfl) ?_ | refine st ?_ | (first | refine b1 ?_ ?_ | refine b2 ?_ ?_ | refine Br.mk ?_ ?_) <;> intro hc | exact rfl | refine sAct_fnI hm4 (apure2 hp9 rfl) heu hiu ?_) <;> conv => whnf)
      exact NxtS.mk (i + 1, L.set i (S u)) (by first | omega | (dsimp only; omega)) ⟨(by first | omega | (dsimp only; omega)), hLn⟩ (by (refine ⟨?_, ?_⟩ <;> repeat' (first | exact True.intro | refine And.intro (e1 _ hv8) ?_ | refine ai ?_ | refine And.intro ?_ ?_)))
  · have hi' : i = l.length := by omega
    subst hi'
    rw [List.take_length, List.drop_length, List.map_nil, List.append_nil] at hL
    have hLt : 0 + l.length ≤ (L.map Ex.v).length := by rw [lmL]; omega
    (conv => whnf); repeat' ((first | intro g | refine Need.mk (⟨hLt, Ex.pures _⟩) ?_ | refine st ?_ | (first | refine b1 ?_ ?_ | refine b2 ?_ ?_ | refine Br.mk ?_ ?_) <;> intro hc | exact rfl) <;> conv => whnf)
    exact ⟨_, rfl, exr_own hne hL⟩
end Go.AM
