/-
  Texts of the proof, joined by program: PSimR4, PSimR5, PSimR0, PTopA, PTopB. Own work.
-/
import Derived.Test.YtjmcpijpclfakaaGreatNa
import Derived.Test.YtjmcpijpclfakaaGreatNb
import Derived.Test.YtjmcpijpclfakaaGreatNc
import Derived.Test.YtjmcpijpclfakaaGreatOa
import Derived.Test.YtjmcpijpclfakaaGreatOb
import Derived.Test.YtjmcpijpclfakaaGreatOc
import Derived.Test.YtjmcpijpclfakaaGreatKa
import Derived.Test.YtjmcpijpclfakaaGreatB
import Derived.Test.YtjmcpijpclfakaaGreatLb
import Derived.Test.YtjmcpijpclfakaaGreatHd
import Derived.Test.YtjmcpijpclfakaaGreatC
set_option linter.unusedSimpArgs false
set_option linter.unusedVariables false
set_option maxRecDepth 20000
namespace Go.AM
set_option maxHeartbeats 4000000 in
theorem simr_4 {x y : Ex} {l : List Ex} (hl : l = [x, y]) {Bx By : Bd} {sv : V} {S : Ex → Ex} {t : Int} {val : Va} {var : Int} {nl : Bool} {vv : V} (hsv : Sv sv) (hlen : l.length < 1000000)
    (hch : Ev E 341 [(Ex.mk 4 var val nl l).v] ⟨.tuple [vi t, vi 0], []⟩) (hval : Ev E 345 [(Ex.mk 4 var val nl l).v, vi t, sv] ⟨vv, []⟩) (hcv : ConV none vv)
    (hcp : Ev E 334 [(Ex.mk 4 var val nl l).v] ⟨(Ex.mk 4 var val nl l).norm.ov, []⟩)
    (ofx : Ev E 342 [x.v, sv] ⟨.tuple [vi Bx.lo, vi Bx.hi], []⟩) (ofy : Ev E 342 [y.v, sv] ⟨.tuple [vi By.lo, vi By.hi], []⟩)
    (ih : ∀ x ∈ l, ∃ r, Ev E 321 [x.v, sv] ⟨r, []⟩ ∧ ExR (S x) r) : ∃ r, Ev E 321 [(Ex.mk 4 var val nl l).v, sv] ⟨r, []⟩ ∧ ExR (simHead none 4 var val [Bx, By] (l.map S)) r := by
  by_cases q1 : Bx.lo = 1
  · exact simr_4a hl hsv hlen hch hval hcv hcp ofx ofy ih q1
  by_cases q2 : By.lo = 1
  · exact simr_4b hl hsv hlen hch hval hcv hcp ofx ofy ih q1 q2
  have hsv2 := hsv
  rcases hsv2 with hs0 | ⟨ks, hs0⟩
  · exact simr_4n hl hsv hlen hch hval hcv hcp ofx ofy ih q1 q2 hs0
  · exact simr_4l hl hsv hlen hch hval hcv hcp ofx ofy ih q1 q2 hs0
end Go.AM
set_option maxRecDepth 20000
namespace Go.AM
set_option maxHeartbeats 4000000 in
theorem simr_5 {x y : Ex} {l : List Ex} (hl : l = [x, y]) {Bx By : Bd} {sv : V} {S : Ex → Ex} {t : Int} {val : Va} {var : Int} {nl : Bool} {vv : V} (hsv : Sv sv) (hlen : l.length < 1000000)
    (hch : Ev E 341 [(Ex.mk 5 var val nl l).v] ⟨.tuple [vi t, vi 0], []⟩) (hval : Ev E 345 [(Ex.mk 5 var val nl l).v, vi t, sv] ⟨vv, []⟩) (hcv : ConV none vv)
    (hcp : Ev E 334 [(Ex.mk 5 var val nl l).v] ⟨(Ex.mk 5 var val nl l).norm.ov, []⟩)
    (ofx : Ev E 342 [x.v, sv] ⟨.tuple [vi Bx.lo, vi Bx.hi], []⟩) (ofy : Ev E 342 [y.v, sv] ⟨.tuple [vi By.lo, vi By.hi], []⟩)
    (ih : ∀ x ∈ l, ∃ r, Ev E 321 [x.v, sv] ⟨r, []⟩ ∧ ExR (S x) r) : ∃ r, Ev E 321 [(Ex.mk 5 var val nl l).v, sv] ⟨r, []⟩ ∧ ExR (simHead none 5 var val [Bx, By] (l.map S)) r := by
  by_cases q1 : Bx.hi = 0
  · exact simr_5a hl hsv hlen hch hval hcv hcp ofx ofy ih q1
  by_cases q2 : By.hi = 0
  · exact simr_5b hl hsv hlen hch hval hcv hcp ofx ofy ih q1 q2
  have hsv2 := hsv
  rcases hsv2 with hs0 | ⟨ks, hs0⟩
  · exact simr_5n hl hsv hlen hch hval hcv hcp ofx ofy ih q1 q2 hs0
  · exact simr_5l hl hsv hlen hch hval hcv hcp ofx ofy ih q1 q2 hs0
end Go.AM
set_option maxRecDepth 20000
namespace Go.AM
set_option maxHeartbeats 4000000 in
theorem simr_0 {op : Int} (hop : op ≠ 13 ∧ op ≠ 4 ∧ op ≠ 5) {l : List Ex} (hne0 : l ≠ []) {sv : V} {S : Ex → Ex} {t : Int} {val : Va} {var : Int} {nl : Bool} {vv : V} (hsv : Sv sv) (hlen : l.length < 1000000)
    (hch : Ev E 341 [(Ex.mk op var val nl l).v] ⟨.tuple [vi t, vi 0], []⟩) (hval : Ev E 345 [(Ex.mk op var val nl l).v, vi t, sv] ⟨vv, []⟩) (hcv : ConV none vv)
    (hcp : Ev E 334 [(Ex.mk op var val nl l).v] ⟨(Ex.mk op var val nl l).norm.ov, []⟩)
    (ih : ∀ x ∈ l, ∃ r, Ev E 321 [x.v, sv] ⟨r, []⟩ ∧ ExR (S x) r) : ∃ r, Ev E 321 [(Ex.mk op var val nl l).v, sv] ⟨r, []⟩ ∧ ExR (Ex.mk op var val true (l.map S)) r := by
  obtain ⟨Xe, rfl, _⟩ := hcv
  have hm2 : modesOf E 342 = [] := rfl
  have hm3 : modesOf E 345 = [] := rfl
  have hm4 : modesOf E 321 = [] := rfl
  obtain ⟨a0, b0, c0, d0, e0, f0, L0, hv0, hp0⟩ := Xe.form3
  rw [hv0] at hval
  have hpv : V.isPure (.tuple [.agg [vi a0, vi b0, vi c0, vi d0, .bool e0, .str f0, L0], .bool (none : Option Ex).isSome]) = true := by
    simp only [V.isPure, V.arePure, Bool.and_eq_true] at hp0 ⊢
    simp [hp0]
  have hne : 0 < l.length := by cases l with | nil => exact absurd rfl hne0 | cons => simp
  have lm : (l.map Ex.v).length = l.length := List.length_map ..
  have n13 : ¬ op = 13 := by omega
  have n4 : ¬ op = 4 := by omega
  have n5 : ¬ op = 5 := by omega
  have hlv : lv nl (l.map Ex.v) = .lit 7 (l.map Ex.v) := by
    cases l with
    | nil => simp at hne
    | cons y ys => rfl
  have hov : (Ex.mk op var val nl l).norm.ov = .agg [vi op, vi var, vi val.t, vi val.n, .bool val.b, .str val.s, .own 7 ((l.map Ex.norm).map Ex.v)] := by
    cases l with
    | nil => simp at hne
    | cons y ys => simp only [Ex.norm, Ex.norms_eq, Ex.ov]; rfl
  rw [hov] at hcp
  rw [Ex.v_eq, hlv] at hch hval hcp ⊢
  have hpa : ∀ w, V.isPure w = true → V.arePure [.agg [vi op, vi var, vi val.t, vi val.n, .bool val.b, .str val.s, .lit 7 (l.map Ex.v)], vi t, w] = true := fun w h => by simp only [V.arePure, h, Bool.and_self, Bool.and_true]; rfl
  rcases hsv with rfl | ⟨ks, rfl⟩
  · refine evex ?_
    refine Ev.of_s (R := fun r => ∃ v, r = ⟨v, []⟩ ∧ ExR (Ex.mk op var val true (l.map S)) v) E_321 (X_321 _) rfl ?_
    (conv => whnf); repeat' ((first | refine sAct_fn hm3 (hpa _ rfl) hval hpv ?_ | intro g | refine CallS.mk _ (hch) ?_ | refine CallS.mk _ (hcp) ?_ | refine st ?_ | (first | refine b1 ?_ ?_ | refine b2 ?_ ?_ | refine Br.mk ?_ ?_) <;> intro hc | exact rfl) <;> conv => whnf)
    rename_i g48 g80 g128 gA
    obtain ⟨g160, hg160⟩ : ∃ x, x = g := ⟨_, rfl⟩
    rw [← hg160]; clear hg160
    refine LoopS.by (fun ((i, L) : Nat × List Ex) => ⟨[(1, .nils), (2, .ptr 48 g48 0 0), (4, .ptr 80 g80 0 0), (9, .ptr 160 g160 0 0), (12, vnat i)],
        [(80, ⟨g80, 7, false, false, some [.agg [vi 0, vi 0, vi 0, vi 0, .bool false, .str [], .lit 7 []]]⟩), (48, ⟨g48, 7, false, false, some [.agg [vi op, vi var, vi val.t, vi val.n, .bool val.b, .str val.s, .lit 7 (l.map Ex.v)]]⟩), (160, ⟨g160, 7, false, false, some [.agg [vi op, vi var, vi val.t, vi val.n, .bool val.b, .str val.s, .sl 534 gA 0 l.length]]⟩), (534, ⟨gA, 7, true, false, some (L.map Ex.v)⟩)]⟩)
      (fun (i, L) => i ≤ l.length ∧ L = (l.take i).map S ++ (l.drop i).map Ex.norm) (fun (i, _) => l.length - i) (0, l.map Ex.norm) (by (refine ⟨?_, ?_⟩ <;> repeat' (first | exact True.intro | refine ai ?_ | refine And.intro ?_ ?_))) ⟨by simp, by simp⟩ ?_
    rintro ⟨i, L⟩ ⟨hi, hL⟩
    try dsimp only at hi hL
    have hLl : L.length = l.length := by rw [hL]; simp; omega
    have lmL : (L.map Ex.v).length = l.length := by rw [List.length_map, hLl]
    by_cases hlt : i < l.length
    · obtain ⟨u, hu⟩ : ∃ u, l[i]? = some u := ⟨_, get_lt hlt⟩
      obtain ⟨ru, heu, hru⟩ := ih u (List.mem_of_getElem? hu)
      have hiu := fun r k => hru.imp r k
      have hLn : L.set i (S u) = (l.take (i + 1)).map S ++ (l.drop (i + 1)).map Ex.norm := by
        have h1 : (l.drop i).map Ex.norm = u.norm :: (l.drop (i + 1)).map Ex.norm := by
          rw [List.drop_eq_getElem_cons hlt, List.map_cons]
          congr 2
          exact (List.getElem?_eq_some_iff.1 hu).2
        rw [hL, h1, List.take_add_one, hu, List.set_append_right _ _ (by simp; omega)]
        simp
        rw [show i - min i l.length = 0 by omega]
        rfl
      obtain ⟨u0, hu0⟩ : ∃ u0, L[i]? = some u0 := ⟨_, get_lt (by omega)⟩
      obtain ⟨a7, b7, c7, d7, e7, f7, M7, hv7, hp7⟩ := u0.form3
      obtain ⟨a9, b9, c9, d9, e9, f9, M9, hv9, hp9⟩ := u.form3
      rw [hv9] at heu
      obtain ⟨a8, b8, c8, d8, e8, f8, M8, hv8, hM8⟩ := (S u).form
      rw [hv8] at hiu
      have e1 : ∀ w, (S u).v = w → (⟨gA, 7, true, false, some ((L.map Ex.v).set ((i : Nat) : Int).toNat w)⟩ : Obj) = ⟨gA, 7, true, false, some ((L.set i (S u)).map Ex.v)⟩ := fun w hw => by rw [← hw]; simp [List.map_set]
      rcases hM8 with rfl | ⟨us, rfl⟩
      all_goals
        (conv => whnf); repeat' ((first | refine sAct_fnI hm4 (apure2 hp9 rfl) heu hiu ?_ | intro g | refine Wit.mk _ (map_getE hu hv9 rfl) ?_ | refine Wit.mk _ (map_getE hu0 hv7 rfl) ?_ | refine st ?_ | (first | refine b1 ?_ ?_ | refine b2 ?_ ?_ | refine Br.mk ?_ ?_) <;> intro hc | exact rfl) <;> conv => whnf)
        exact NxtS.mk (i + 1, L.set i (S u)) (by first | omega | (dsimp only; omega)) ⟨(by first | omega | (dsimp only; omega)), hLn⟩ (by (refine ⟨?_, ?_⟩ <;> repeat' (first | exact True.intro | refine And.intro (e1 _ hv8) ?_ | refine ai ?_ | refine And.intro ?_ ?_)))
    · have hi' : i = l.length := by omega
      subst hi'
      rw [List.take_length, List.drop_length, List.map_nil, List.append_nil] at hL
      have hLt : 0 + l.length ≤ (L.map Ex.v).length := by rw [lmL]; omega
      (conv => whnf); repeat' ((first | intro g | refine Need.mk (⟨hLt, Ex.pures _⟩) ?_ | refine st ?_ | (first | refine b1 ?_ ?_ | refine b2 ?_ ?_ | refine Br.mk ?_ ?_) <;> intro hc | exact rfl) <;> conv => whnf)
      exact ⟨_, rfl, exr_own hne hL⟩
  · refine evex ?_
    refine Ev.of_s (R := fun r => ∃ v, r = ⟨v, []⟩ ∧ ExR (Ex.mk op var val true (l.map S)) v) E_321 (X_321 _) rfl ?_
    (conv => whnf); repeat' ((first | refine sAct_fn hm3 (hpa _ rfl) hval hpv ?_ | intro g | refine CallS.mk _ (hch) ?_ | refine CallS.mk _ (hcp) ?_ | refine st ?_ | (first | refine b1 ?_ ?_ | refine b2 ?_ ?_ | refine Br.mk ?_ ?_) <;> intro hc | exact rfl) <;> conv => whnf)
    rename_i g48 g80 g128 gA
    obtain ⟨g160, hg160⟩ : ∃ x, x = g := ⟨_, rfl⟩
    rw [← hg160]; clear hg160
    refine LoopS.by (fun ((i, L) : Nat × List Ex) => ⟨[(1, .lit 4 ks), (2, .ptr 48 g48 0 0), (4, .ptr 80 g80 0 0), (9, .ptr 160 g160 0 0), (12, vnat i)],
        [(80, ⟨g80, 7, false, false, some [.agg [vi 0, vi 0, vi 0, vi 0, .bool false, .str [], .lit 7 []]]⟩), (48, ⟨g48, 7, false, false, some [.agg [vi op, vi var, vi val.t, vi val.n, .bool val.b, .str val.s, .lit 7 (l.map Ex.v)]]⟩), (160, ⟨g160, 7, false, false, some [.agg [vi op, vi var, vi val.t, vi val.n, .bool val.b, .str val.s, .sl 534 gA 0 l.length]]⟩), (534, ⟨gA, 7, true, false, some (L.map Ex.v)⟩)]⟩)
      (fun (i, L) => i ≤ l.length ∧ L = (l.take i).map S ++ (l.drop i).map Ex.norm) (fun (i, _) => l.length - i) (0, l.map Ex.norm) (by (refine ⟨?_, ?_⟩ <;> repeat' (first | exact True.intro | refine ai ?_ | refine And.intro ?_ ?_))) ⟨by simp, by simp⟩ ?_
    rintro ⟨i, L⟩ ⟨hi, hL⟩
    try dsimp only at hi hL
    have hLl : L.length = l.length := by rw [hL]; simp; omega
    have lmL : (L.map Ex.v).length = l.length := by rw [List.length_map, hLl]
    by_cases hlt : i < l.length
    · obtain ⟨u, hu⟩ : ∃ u, l[i]? = some u := ⟨_, get_lt hlt⟩
      obtain ⟨ru, heu, hru⟩ := ih u (List.mem_of_getElem? hu)
      have hiu := fun r k => hru.imp r k
      have hLn : L.set i (S u) = (l.take (i + 1)).map S ++ (l.drop (i + 1)).map Ex.norm := by
        have h1 : (l.drop i).map Ex.norm = u.norm :: (l.drop (i + 1)).map Ex.norm := by
          rw [List.drop_eq_getElem_cons hlt, List.map_cons]
          congr 2
          exact (List.getElem?_eq_some_iff.1 hu).2
        rw [hL, h1, List.take_add_one, hu, List.set_append_right _ _ (by simp; omega)]
        simp
        rw [show i - min i l.length = 0 by omega]
        rfl
      obtain ⟨u0, hu0⟩ : ∃ u0, L[i]? = some u0 := ⟨_, get_lt (by omega)⟩
      obtain ⟨a7, b7, c7, d7, e7, f7, M7, hv7, hp7⟩ := u0.form3
      obtain ⟨a9, b9, c9, d9, e9, f9, M9, hv9, hp9⟩ := u.form3
      rw [hv9] at heu
      obtain ⟨a8, b8, c8, d8, e8, f8, M8, hv8, hM8⟩ := (S u).form
      rw [hv8] at hiu
      have e1 : ∀ w, (S u).v = w → (⟨gA, 7, true, false, some ((L.map Ex.v).set ((i : Nat) : Int).toNat w)⟩ : Obj) = ⟨gA, 7, true, false, some ((L.set i (S u)).map Ex.v)⟩ := fun w hw => by rw [← hw]; simp [List.map_set]
      rcases hM8 with rfl | ⟨us, rfl⟩
      all_goals
        (conv => whnf); repeat' ((first | refine sAct_fnI hm4 (apure2 hp9 rfl) heu hiu ?_ | intro g | refine Wit.mk _ (map_getE hu hv9 rfl) ?_ | refine Wit.mk _ (map_getE hu0 hv7 rfl) ?_ | refine st ?_ | (first | refine b1 ?_ ?_ | refine b2 ?_ ?_ | refine Br.mk ?_ ?_) <;> intro hc | exact rfl) <;> conv => whnf)
        exact NxtS.mk (i + 1, L.set i (S u)) (by first | omega | (dsimp only; omega)) ⟨(by first | omega | (dsimp only; omega)), hLn⟩ (by (refine ⟨?_, ?_⟩ <;> repeat' (first | exact True.intro | refine And.intro (e1 _ hv8) ?_ | refine ai ?_ | refine And.intro ?_ ?_)))
    · have hi' : i = l.length := by omega
      subst hi'
      rw [List.take_length, List.drop_length, List.map_nil, List.append_nil] at hL
      have hLt : 0 + l.length ≤ (L.map Ex.v).length := by rw [lmL]; omega
      (conv => whnf); repeat' ((first | intro g | refine Need.mk (⟨hLt, Ex.pures _⟩) ?_ | refine st ?_ | (first | refine b1 ?_ ?_ | refine b2 ?_ ?_ | refine Br.mk ?_ ?_) <;> intro hc | exact rfl) <;> conv => whnf)
      exact ⟨_, rfl, exr_own hne hL⟩
end Go.AM
set_option maxRecDepth 20000
namespace Go.AM
theorem err_ok {e : Ex} (h : e.err = 0) : e.size ≤ 60 ∧ e.typ ≠ 0 := by
  unfold Ex.err at h
  split at h
  · omega
  · split at h
    · omega
    · exact ⟨by omega, by assumption⟩
def Ex.res (K : Int → Bd) (e : Ex) : Ex := if e.err = 0 then e.sim K else e.norm
def Ex.rng (K : Int → Bd) (e : Ex) : V := if e.err = 0 ∧ e.typ ≠ 3 then .tuple [vi (e.bd K).lo, vi (e.bd K).hi, .bool true] else .tuple [vi 0, vi 0, .bool false]
theorem norm_imp (e : Ex) (r : Nat) (k : V → Act2) : importRes2 false r [] e.norm.ov k = k e.norm.v := by
  obtain ⟨a, b, c, d, e', f, ⟨h1, h2⟩ | ⟨ys, _, h1, h2⟩⟩ := e.oform
  · rw [h1, h2]; rfl
  · rw [h1, h2]; rfl
theorem same_ev : ∀ (k : Nat) (e : Ex), e.size ≤ k → k < 1000000 → Ev E 319 [e.v, e.v] ⟨.bool true, []⟩
  | 0, e, h, _ => by have := e.size_pos; omega
  | k + 1, .mk op var val nl l, h, hk => by
    have hsz : Ex.sizes l ≤ k := by simp only [Ex.size] at h; omega
    have ih : ∀ x ∈ l, Ev E 319 [x.v, x.v] ⟨.bool true, []⟩ := fun x hx => same_ev k x (Nat.le_trans (Ex.size_mem hx) hsz) (by omega)
    have hlen := Ex.length_le l
    have hm2 : modesOf E 319 = [] := rfl
    rw [Ex.v_eq]
    have hself : (val.t == val.t && (val.n == val.n && (val.b == val.b && (decide (val.s = val.s) && true)))) = true := by simp
    cases l with
    | nil =>
      cases nl <;> simp only [List.map_nil, lv, cond_true, cond_false]
      all_goals
        refine Ev.of_s' E_319 (X_319 _) rfl ?_
        (conv => whnf); repeat' ((first | intro g | refine st ?_ | (first | refine b1 ?_ ?_ | refine b2 ?_ ?_ | refine Br.mk ?_ ?_) <;> intro hc | exact rfl) <;> conv => whnf)
        rename_i g48
        refine LoopS.by (fun (i : Nat) => ⟨[(2, .ptr 48 g48 0 0), (3, .ptr 64 g 0 0), (5, vnat 0)], [(48, ⟨g48, 7, false, false, some [_]⟩), (64, ⟨g, 7, false, false, some [_]⟩)]⟩) (fun i => i = 0) (fun _ => 0) 0 (by (refine ⟨?_, ?_⟩ <;> repeat' (first | exact True.intro | refine ai ?_ | refine And.intro ?_ ?_))) rfl ?_
        rintro i rfl
        (conv => whnf); repeat' ((first | intro g | refine st ?_ | (first | refine b1 ?_ ?_ | refine b2 ?_ ?_ | refine Br.mk ?_ ?_) <;> intro hc | exact rfl) <;> conv => whnf)
    | cons y ys =>
      have e1 : lv nl ((y :: ys).map Ex.v) = .lit 7 ((y :: ys).map Ex.v) := rfl
      rw [e1]
      generalize hl : y :: ys = l at *
      clear hl
      refine Ev.of_s' E_319 (X_319 _) rfl ?_
      (conv => whnf); repeat' ((first | intro g | refine st ?_ | (first | refine b1 ?_ ?_ | refine b2 ?_ ?_ | refine Br.mk ?_ ?_) <;> intro hc | exact rfl) <;> conv => whnf)
      all_goals first | exact absurd hself (by assumption) | skip
      rename_i g48
      refine LoopS.by (fun (i : Nat) => ⟨[(2, .ptr 48 g48 0 0), (3, .ptr 64 g 0 0), (5, vnat i)], [(48, ⟨g48, 7, false, false, some [.agg [vi op, vi var, vi val.t, vi val.n, .bool val.b, .str val.s, .lit 7 (l.map Ex.v)]]⟩), (64, ⟨g, 7, false, false, some [.agg [vi op, vi var, vi val.t, vi val.n, .bool val.b, .str val.s, .lit 7 (l.map Ex.v)]]⟩)]⟩)
        (fun i => i ≤ l.length) (fun i => l.length - i) 0 (by (refine ⟨?_, ?_⟩ <;> repeat' (first | exact True.intro | refine ai ?_ | refine And.intro ?_ ?_))) (by simp) ?_
      intro i hi
      by_cases hlt : i < l.length
      · obtain ⟨x, hx⟩ : ∃ x, l[i]? = some x := ⟨_, get_lt hlt⟩
        have hxe := ih x (List.mem_of_getElem? hx)
        obtain ⟨a, b, c, d, e', f, L, hv, hp⟩ := x.form3
        rw [hv] at hxe
        (conv => whnf); repeat' ((first | refine sAct_fn hm2 (apure2 hp hp) hxe rfl ?_ | intro g | refine Wit.mk _ (map_getE hx hv rfl) ?_ | refine st ?_ | (first | refine b1 ?_ ?_ | refine b2 ?_ ?_ | refine Br.mk ?_ ?_) <;> intro hc | exact rfl) <;> conv => whnf)
        exact NxtS.mk (i + 1) (by first | omega | (dsimp only; omega)) (by first | omega | (dsimp only; omega)) (by (refine ⟨?_, ?_⟩ <;> repeat' (first | exact True.intro | refine ai ?_ | refine And.intro ?_ ?_)))
      · have hi' : i = l.length := by omega
        subst hi'
        (conv => whnf); repeat' ((first | intro g | refine st ?_ | (first | refine b1 ?_ ?_ | refine b2 ?_ ?_ | refine Br.mk ?_ ?_) <;> intro hc | exact rfl) <;> conv => whnf)
set_option maxHeartbeats 1000000 in
theorem pexpr_ev {l : List Kno} {sv : V} (hl : KFit l) (hs : IsS 4 (l.map Kno.v) sv) (e : Ex) (he : e.size < 1000000) (hf : e.Fit) : Ev E 320 [e.v, sv] ⟨(e.res (factB l)).v, []⟩ := by
  have hch := pcheck_ev e he hf
  have hcp := pcopy_ev _ e (Nat.le_refl _) he
  have hga := gatherA_ev hl hs
  have hmp := esOf_mp (factB l) 9
  have hm1 : modesOf E 338 = [] := rfl
  have hm2 : modesOf E 343 = [] := rfl
  have hm3 : modesOf E 344 = [] := rfl
  have hm4 : modesOf E 339 = [] := rfl
  obtain ⟨a, b, c, d, e', f, L, hv, hp⟩ := e.form3
  have hpb : V.arePure [.agg [vi a, vi b, vi c, vi d, .bool e', .str f, L]] = true := by simp only [V.arePure, hp]; rfl
  have hsv := hs.sv
  by_cases her : e.err = 0
  · obtain ⟨r, hsim, hr⟩ := sim_ev hl _ e (Nat.le_refl _) (err_ok her).1 hf (err_ok her).2
    have himp := fun rr k => hr.imp rr k
    have hR : e.res (factB l) = e.sim (factB l) := by simp [Ex.res, her]
    rw [hR]
    obtain ⟨a8, b8, c8, d8, e8, f8, M8, hv8, hM8⟩ := (e.sim (factB l)).form
    rw [hv8] at himp ⊢
    rw [hv] at hch hsim ⊢
    rw [her] at hch
    generalize esOf (factB l) 9 = es at *
    clear hs
    rcases hM8 with rfl | ⟨us, rfl⟩ <;> rcases hsv with rfl | ⟨ks, rfl⟩
    all_goals
      refine Ev.of_s' E_320 (X_320 _) rfl ?_
      (conv => whnf); repeat' ((first | refine sAct_fn hm1 hpb hch rfl ?_ | refine sAct_fn hm4 rfl hga hmp ?_ | refine sAct_fnI hm3 (apure2 hmp hp) hsim himp ?_ | intro g | refine st ?_ | (first | refine b1 ?_ ?_ | refine b2 ?_ ?_ | refine Br.mk ?_ ?_) <;> intro hc | exact rfl) <;> conv => whnf)
  · have hR : e.res (factB l) = e.norm := by simp [Ex.res, her]
    have himp := fun rr k => norm_imp e rr k
    rw [hR]
    obtain ⟨a8, b8, c8, d8, e8, f8, M8, hv8, hM8⟩ := e.norm.form
    rw [hv8] at himp ⊢
    rw [hv] at hch hcp ⊢
    clear hs
    rcases hM8 with rfl | ⟨us, rfl⟩ <;> rcases hsv with rfl | ⟨ks, rfl⟩
    all_goals
      refine Ev.of_s' E_320 (X_320 _) rfl ?_
      (conv => whnf); repeat' ((first | refine sAct_fn hm1 hpb hch rfl ?_ | refine sAct_fnI hm2 hpb hcp himp ?_ | intro g | refine st ?_ | (first | refine b1 ?_ ?_ | refine b2 ?_ ?_ | refine Br.mk ?_ ?_) <;> intro hc | exact rfl) <;> conv => whnf)
set_option maxHeartbeats 1000000 in
theorem prange_ev {l : List Kno} {sv : V} (hl : KFit l) (hs : IsS 4 (l.map Kno.v) sv) (e : Ex) (he : e.size < 1000000) (hf : e.Fit) : Ev E 317 [e.v, sv] ⟨e.rng (factB l), []⟩ := by
  have hch := pcheck_ev e he hf
  have hga := gatherA_ev hl hs
  have hmp := esOf_mp (factB l) 9
  have hm1 : modesOf E 338 = [] := rfl
  have hm3 : modesOf E 340 = [] := rfl
  have hm4 : modesOf E 339 = [] := rfl
  obtain ⟨a, b, c, d, e', f, L, hv, hp⟩ := e.form3
  have hpb : V.arePure [.agg [vi a, vi b, vi c, vi d, .bool e', .str f, L]] = true := by simp only [V.arePure, hp]; rfl
  have hsv := hs.sv
  unfold Ex.rng
  by_cases her : e.err = 0
  · have hty := ty_eq (err_ok her).1
    rw [hty, her] at hch
    by_cases h3 : e.typ = 3
    · rw [if_neg (by simp [h3])]
      rw [h3] at hch
      rw [hv] at hch ⊢
      clear hs
      rcases hsv with rfl | ⟨ks, rfl⟩
      all_goals
        refine Ev.of_s' E_317 (X_317 _) rfl ?_
        (conv => whnf); repeat' ((first | refine sAct_fn hm1 hpb hch rfl ?_ | intro g | refine st ?_ | (first | refine b1 ?_ ?_ | refine b2 ?_ ?_ | refine Br.mk ?_ ?_) <;> intro hc | exact rfl) <;> conv => whnf)
    · rw [if_pos ⟨her, h3⟩]
      have hof := of_ev (factOk hl) _ e (Nat.le_refl _) (by have := (err_ok her).1; omega) (err_ok her).2
      rw [hv] at hch hof ⊢
      generalize esOf (factB l) 9 = es at *
      generalize e.bd (factB l) = bx at *
      clear hs
      rcases hsv with rfl | ⟨ks, rfl⟩
      all_goals
        refine Ev.of_s' E_317 (X_317 _) rfl ?_
        (conv => whnf); repeat' ((first | refine sAct_fn hm1 hpb hch rfl ?_ | refine sAct_fn hm4 rfl hga hmp ?_ | refine sAct_fn hm3 (apure2 hmp hp) hof (Bd.pure _) ?_ | intro g | refine st ?_ | (first | refine b1 ?_ ?_ | refine b2 ?_ ?_ | refine Br.mk ?_ ?_) <;> intro hc | exact rfl) <;> conv => whnf)
  · rw [if_neg (by simp [her])]
    rw [hv] at hch ⊢
    clear hs
    rcases hsv with rfl | ⟨ks, rfl⟩
    all_goals
      refine Ev.of_s' E_317 (X_317 _) rfl ?_
      (conv => whnf); repeat' ((first | refine sAct_fn hm1 hpb hch rfl ?_ | intro g | refine st ?_ | (first | refine b1 ?_ ?_ | refine b2 ?_ ?_ | refine Br.mk ?_ ?_) <;> intro hc | exact rfl) <;> conv => whnf)
set_option maxHeartbeats 1000000 in
theorem rrange_ev {l : List Kno} {sv : V} (hl : KFit l) (hs : IsS 4 (l.map Kno.v) sv) (e : Ex) (he : e.size < 1000000) (hf : e.Fit) : Ev E 318 [e.v, sv] ⟨e.rng (factB l), []⟩ := by
  have hch := rcheck_ev e he hf
  have hm1 : modesOf E 341 = [] := rfl
  have hm3 : modesOf E 342 = [] := rfl
  obtain ⟨a, b, c, d, e', f, L, hv, hp⟩ := e.form3
  have hpb : V.arePure [.agg [vi a, vi b, vi c, vi d, .bool e', .str f, L]] = true := by simp only [V.arePure, hp]; rfl
  have hsv := hs.sv
  unfold Ex.rng
  by_cases her : e.err = 0
  · have hty := ty_eq (err_ok her).1
    rw [hty, her] at hch
    by_cases h3 : e.typ = 3
    · rw [if_neg (by simp [h3])]
      rw [h3] at hch
      rw [hv] at hch ⊢
      clear hs
      rcases hsv with rfl | ⟨ks, rfl⟩
      all_goals
        refine Ev.of_s' E_318 (X_318 _) rfl ?_
        (conv => whnf); repeat' ((first | refine sAct_fn hm1 hpb hch rfl ?_ | intro g | refine st ?_ | (first | refine b1 ?_ ?_ | refine b2 ?_ ?_ | refine Br.mk ?_ ?_) <;> intro hc | exact rfl) <;> conv => whnf)
    · rw [if_pos ⟨her, h3⟩]
      have hof := (ref_ev hl hs _ e (Nat.le_refl _) (err_ok her).1 hf (err_ok her).2).1 h3
      unfold Bounds at hof
      rw [hv] at hch hof ⊢
      generalize e.bd (factB l) = bx at *
      clear hs
      rcases hsv with rfl | ⟨ks, rfl⟩
      all_goals
        refine Ev.of_s' E_318 (X_318 _) rfl ?_
        (conv => whnf); repeat' ((first | refine sAct_fn hm1 hpb hch rfl ?_ | refine sAct_fn hm3 (apure2 hp rfl) hof rfl ?_ | intro g | refine st ?_ | (first | refine b1 ?_ ?_ | refine b2 ?_ ?_ | refine Br.mk ?_ ?_) <;> intro hc | exact rfl) <;> conv => whnf)
  · rw [if_neg (by simp [her])]
    rw [hv] at hch ⊢
    clear hs
    rcases hsv with rfl | ⟨ks, rfl⟩
    all_goals
      refine Ev.of_s' E_318 (X_318 _) rfl ?_
      (conv => whnf); repeat' ((first | refine sAct_fn hm1 hpb hch rfl ?_ | intro g | refine st ?_ | (first | refine b1 ?_ ?_ | refine b2 ?_ ?_ | refine Br.mk ?_ ?_) <;> intro hc | exact rfl) <;> conv => whnf)
end Go.AM
set_option maxRecDepth 20000
namespace Go.AM
set_option maxHeartbeats 1000000 in
theorem simr_con {sv : V} {e : Ex} {t : Int} {w : Va} {vv : V} (hsv : Sv sv)
    (hch : Ev E 341 [e.v] ⟨.tuple [vi t, vi 0], []⟩) (hval : Ev E 345 [e.v, vi t, sv] ⟨vv, []⟩) (hcv : ConV (some (cEx w)) vv) : Ev E 321 [e.v, sv] ⟨(cEx w).v, []⟩ := by
  obtain ⟨Xe, rfl, hX⟩ := hcv
  obtain rfl := hX _ rfl
  have hm1 : modesOf E 341 = [] := rfl
  have hm3 : modesOf E 345 = [] := rfl
  rw [cEx_v] at hval ⊢
  obtain ⟨a, b, c, d, e', f, L, hv, hp⟩ := e.form3
  rw [hv] at hch hval ⊢
  have hpa : ∀ w, V.isPure w = true → V.arePure [.agg [vi a, vi b, vi c, vi d, .bool e', .str f, L], vi t, w] = true := fun w h => by simp only [V.arePure, hp, h]; rfl
  have hpb : V.arePure [.agg [vi a, vi b, vi c, vi d, .bool e', .str f, L]] = true := by simp only [V.arePure, hp]; rfl
  rcases hsv with rfl | ⟨ks, rfl⟩
  all_goals
    refine Ev.of_s' E_321 (X_321 _) rfl ?_
    (conv => whnf); repeat' ((first | intro g | refine st ?_ | (first | refine b1 ?_ ?_ | refine b2 ?_ ?_ | refine Br.mk ?_ ?_) <;> intro hc | exact rfl | refine sAct_fn hm1 hpb hch rfl ?_ | refine sAct_fn hm3 (hpa _ rfl) hval rfl ?_) <;> conv => whnf)
set_option maxHeartbeats 1000000 in
theorem simr_leaf {sv : V} {op var : Int} {val : Va} {nl : Bool} {t : Int} {vv : V} (hop : op = 1 ∨ op = 2) (hsv : Sv sv)
    (hch : Ev E 341 [(Ex.mk op var val nl []).v] ⟨.tuple [vi t, vi 0], []⟩) (hval : Ev E 345 [(Ex.mk op var val nl []).v, vi t, sv] ⟨vv, []⟩) (hcv : ConV none vv)
    (hcp : Ev E 334 [(Ex.mk op var val nl []).v] ⟨(Ex.mk op var val nl []).norm.ov, []⟩) : Ev E 321 [(Ex.mk op var val nl []).v, sv] ⟨(Ex.mk op var val true []).v, []⟩ := by
  obtain ⟨Xe, rfl, _⟩ := hcv
  obtain ⟨a0, b0, c0, d0, e0, f0, L0, hv0, hp0⟩ := Xe.form3
  rw [hv0] at hval
  have hpv : V.isPure (.tuple [.agg [vi a0, vi b0, vi c0, vi d0, .bool e0, .str f0, L0], .bool (none : Option Ex).isSome]) = true := by
    simp only [V.isPure, V.arePure, Bool.and_eq_true] at hp0 ⊢
    simp [hp0]
  have hov : (Ex.mk op var val nl []).norm.ov = .agg [vi op, vi var, vi val.t, vi val.n, .bool val.b, .str val.s, .nils] := by
    simp only [Ex.norm, Ex.norms, Ex.ov]; rfl
  rw [hov] at hcp
  rw [Ex.v_eq] at hch hval hcp ⊢
  rw [Ex.v_eq]
  have n13 : ¬ op = 13 := by omega
  have n4 : ¬ op = 4 := by omega
  have n5 : ¬ op = 5 := by omega
  rcases hsv with rfl | ⟨ks, rfl⟩ <;> cases nl <;> simp only [List.map_nil, lv, cond_true, cond_false] at hch hval hcp ⊢
  all_goals
    refine Ev.of_s' E_321 (X_321 _) rfl ?_
    (conv => whnf); repeat' ((first | intro g | refine CallS.mk _ (hch) ?_ | refine CallS.mk _ (hcp) ?_ | refine st ?_ | (first | refine b1 ?_ ?_ | refine b2 ?_ ?_ | refine Br.mk ?_ ?_) <;> intro hc | exact rfl | ((refine CallS.mk _ hval ?_; simp only [putOuts2, importRes2, hpv, cond_true, List.append_nil]))) <;> conv => whnf)
    rename_i g48 g80 g128
    refine LoopS.by (fun (i : Nat) => ⟨[(4, .ptr 80 g80 0 0), (9, .ptr 160 g 0 0), (12, vi 0)], [(80, ⟨g80, 7, false, false, some [.agg [vi 0, vi 0, vi 0, vi 0, .bool false, .str [], .lit 7 []]]⟩), (160, ⟨g, 7, false, false, some [.agg [vi op, vi var, vi val.t, vi val.n, .bool val.b, .str val.s, .nils]]⟩)]⟩) (fun i => i = 0) (fun i => 0) 0 (by (refine ⟨?_, ?_⟩ <;> repeat' (first | exact True.intro | refine ai ?_ | refine And.intro ?_ ?_))) rfl ?_
    rintro i rfl
    (conv => whnf); repeat' ((first | intro g | refine st ?_ | (first | refine b1 ?_ ?_ | refine b2 ?_ ?_ | refine Br.mk ?_ ?_) <;> intro hc | exact rfl) <;> conv => whnf)
theorem simr_ev {l0 : List Kno} {sv : V} (hl : KFit l0) (hs : IsS 4 (l0.map Kno.v) sv) : ∀ (k : Nat) (e : Ex), e.size ≤ k → k ≤ 60 → e.Fit → e.typ ≠ 0 → ∃ r, Ev E 321 [e.v, sv] ⟨r, []⟩ ∧ ExR (e.sim (factB l0)) r
  | 0, e, h, _, _, _ => by have := e.size_pos; omega
  | k + 1, .mk op var val nl l, h, hk, hf, ht => by
    have hK := factOk hl
    have hsv := hs.sv
    have hsz : (Ex.mk op var val nl l).size = 1 + Ex.sizes l := by simp only [Ex.size]
    have hlen := Ex.length_le l
    have hch := rcheck_ev (Ex.mk op var val nl l) (by omega) hf
    have herr : (Ex.mk op var val nl l).err = 0 := by
      unfold Ex.err
      rw [if_neg (by omega), if_neg ht]
    rw [ty_eq (by omega), herr] at hch
    have hcp := rcopy_ev _ (Ex.mk op var val nl l) (Nat.le_refl _) (by omega)
    have hof := ref_ev hl hs _ (Ex.mk op var val nl l) (Nat.le_refl _) (by omega) hf ht
    have hok := bd_ok hK _ (Ex.mk op var val nl l) (Nat.le_refl _) ht
    obtain ⟨vv, hval, hcv⟩ : ∃ v, Ev E 345 [(Ex.mk op var val nl l).v, vi (Ex.mk op var val nl l).typ, sv] ⟨v, []⟩ ∧ ConV (conE (Ex.mk op var val nl l).typ ((Ex.mk op var val nl l).bd (factB l0))) v := by
      unfold Bounds Words at hof
      obtain ⟨a, b, c, d, e', f, L, hv, hp⟩ := (Ex.mk op var val nl l).form3
      rw [hv] at hof ⊢
      exact constant_ev hsv hp hof.1 hof.2 (typ_123 ht) (bd_str hl _ _ (Nat.le_refl _) hf ht) (fun h3 => hok.some (by rw [hok.text, h3]; rfl))
    have ih : ∀ x ∈ l, x.typ ≠ 0 → ∃ r, Ev E 321 [x.v, sv] ⟨r, []⟩ ∧ ExR (x.sim (factB l0)) r := fun x hx hxt =>
      simr_ev hl hs k x (by have := Ex.size_mem hx; omega) (by omega) (hf.mem x hx) hxt
    have iof : ∀ x ∈ l, x.typ ≠ 0 → x.typ ≠ 3 → Ev E 342 [x.v, sv] ⟨.tuple [vi (x.bd (factB l0)).lo, vi (x.bd (factB l0)).hi], []⟩ := fun x hx hxt h3 =>
      (ref_ev hl hs _ x (Nat.le_refl _) (by have := Ex.size_mem hx; omega) (hf.mem x hx) hxt).1 h3
    rw [Ex.sim_eq]
    cases hcon : conE (Ex.mk op var val nl l).typ ((Ex.mk op var val nl l).bd (factB l0)) with
    | some c =>
      obtain ⟨w, rfl⟩ := conE_form hcon
      rw [hcon] at hcv
      exact ⟨_, simr_con hsv hch hval hcv, .inl rfl⟩
    | none =>
      rw [hcon] at hcv
      rcases typ_cases ht with ⟨rfl, rfl, _, hr, e⟩ | ⟨rfl, rfl, _, hv, e⟩ | ⟨x, rfl, rfl, _, _, hx, e⟩ | ⟨x, y, ho, rfl, _, _, hx, hy, e, e6, e45, _⟩ | ⟨x, y, z, rfl, rfl, _, _, hx, hy, hz, e⟩
      · exact ⟨_, simr_leaf (.inl rfl) hsv hch hval hcv hcp, .inl rfl⟩
      · exact ⟨_, simr_leaf (.inr rfl) hsv hch hval hcv hcp, .inl rfl⟩
      · exact simr_0 ⟨by decide, by decide, by decide⟩ (by simp) hsv (by omega) hch hval hcv hcp (fun u hu => ih u hu (by simp at hu; subst hu; omega))
      · have ihh : ∀ u ∈ [x, y], ∃ r, Ev E 321 [u.v, sv] ⟨r, []⟩ ∧ ExR (u.sim (factB l0)) r := fun u hu => ih u hu (by simp at hu; rcases hu with rfl | rfl; exact hx; exact hy)
        by_cases h4 : op = 4
        · subst h4
          have h2 := e45 (.inl rfl)
          exact simr_4 rfl hsv (by simp) hch hval hcv hcp (iof x (by simp) hx (by omega)) (iof y (by simp) hy (by omega)) ihh
        by_cases h5 : op = 5
        · subst h5
          have h2 := e45 (.inr rfl)
          exact simr_5 rfl hsv (by simp) hch hval hcv hcp (iof x (by simp) hx (by omega)) (iof y (by simp) hy (by omega)) ihh
        · have hR : simHead none op var val ([x, y].map (Ex.bd (factB l0))) ([x, y].map (Ex.sim (factB l0))) = .mk op var val true ([x, y].map (Ex.sim (factB l0))) := by simp [simHead, pick, h4, h5]
          rw [hR]
          exact simr_0 ⟨by omega, h4, h5⟩ (by simp) hsv (by simp) hch hval hcv hcp ihh
      · have ihh : ∀ u ∈ [x, y, z], ∃ r, Ev E 321 [u.v, sv] ⟨r, []⟩ ∧ ExR (u.sim (factB l0)) r := fun u hu => ih u hu (by simp at hu; rcases hu with rfl | rfl | rfl; omega; exact hy; omega)
        exact simr_13 (By := y.bd (factB l0)) (Bz := z.bd (factB l0)) rfl hsv (by simp) hch hval hcv hcp (iof x (by simp) (by omega) (by omega)) ihh
set_option maxHeartbeats 1000000 in
theorem rexpr_ev {l : List Kno} {sv : V} (hl : KFit l) (hs : IsS 4 (l.map Kno.v) sv) (e : Ex) (he : e.size < 1000000) (hf : e.Fit) : ∃ r, Ev E 321 [e.v, sv] ⟨r, []⟩ ∧ ExR (e.res (factB l)) r := by
  by_cases her : e.err = 0
  · have hR : e.res (factB l) = e.sim (factB l) := by simp [Ex.res, her]
    rw [hR]
    exact simr_ev hl hs _ e (Nat.le_refl _) (err_ok her).1 hf (err_ok her).2
  · have hR : e.res (factB l) = e.norm := by simp [Ex.res, her]
    rw [hR]
    refine ⟨_, ?_, .inl rfl⟩
    have hch := rcheck_ev e he hf
    have hcp := rcopy_ev _ e (Nat.le_refl _) he
    have hm1 : modesOf E 341 = [] := rfl
    have hm2 : modesOf E 334 = [] := rfl
    obtain ⟨a, b, c, d, e', f, L, hv, hp⟩ := e.form3
    have hpb : V.arePure [.agg [vi a, vi b, vi c, vi d, .bool e', .str f, L]] = true := by simp only [V.arePure, hp]; rfl
    have hsv := hs.sv
    have himp := fun rr k => norm_imp e rr k
    obtain ⟨a8, b8, c8, d8, e8, f8, M8, hv8, hM8⟩ := e.norm.form
    rw [hv8] at himp ⊢
    rw [hv] at hch hcp ⊢
    clear hs
    rcases hM8 with rfl | ⟨us, rfl⟩ <;> rcases hsv with rfl | ⟨ks, rfl⟩
    all_goals
      refine Ev.of_s' E_321 (X_321 _) rfl ?_
      (conv => whnf); repeat' ((first | refine sAct_fn hm1 hpb hch rfl ?_ | refine sAct_fnI hm2 hpb hcp himp ?_ | intro g | refine st ?_ | (first | refine b1 ?_ ?_ | refine b2 ?_ ?_ | refine Br.mk ?_ ?_) <;> intro hc | exact rfl) <;> conv => whnf)
end Go.AM
