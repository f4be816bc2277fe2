/-
  Texts of the proof, joined by program: PFacA, PFacB. Own work.
-/
import Derived.Test.YtjmcpijpclfakaaGreatGc
set_option linter.unusedSimpArgs false
set_option linter.unusedVariables false
set_option maxRecDepth 20000
namespace Go.AM
def foldLo (v : Int) (l : List Kno) (a : Int) : Int := l.foldl (fun a k => if k.var = v then imax a k.lo else a) a
def foldHi (v : Int) (l : List Kno) (a : Int) : Int := l.foldl (fun a k => if k.var = v then imin a k.hi else a) a
theorem foldLo_take {v : Int} {l : List Kno} {a : Int} {i : Nat} {k : Kno} (h : l[i]? = some k) : foldLo v (l.take (i + 1)) a = if k.var = v then imax (foldLo v (l.take i) a) k.lo else foldLo v (l.take i) a := by
  rw [List.take_add_one, h, foldLo, List.foldl_append]; rfl
theorem foldHi_take {v : Int} {l : List Kno} {a : Int} {i : Nat} {k : Kno} (h : l[i]? = some k) : foldHi v (l.take (i + 1)) a = if k.var = v then imin (foldHi v (l.take i) a) k.hi else foldHi v (l.take i) a := by
  rw [List.take_add_one, h, foldHi, List.foldl_append]; rfl
def fromV (v : Int) : Int := if varT v = 2 then 0 else -1073741824
def toV (v : Int) : Int := if varT v = 2 then 1 else 1073741824
def rngB (v : Int) (l : List Kno) : Bd := if foldHi v l (toV v) < foldLo v l (fromV v) then nb (fromV v) (toV v) else nb (foldLo v l (fromV v)) (foldHi v l (toV v))
def common (own : List Kno) (s : Str) : Bool := own.all fun k => decide (s ∈ k.texts)
def textsW : List Kno → List Str
  | [] => []
  | k :: own => union [] (k.texts.filter (common (k :: own)))
def textsB (own : List Kno) : Bd := ⟨0, 0, true, textsW own, !(textsW own).isEmpty, true⟩
def ownOf (v : Int) (l : List Kno) : List Kno := l.filter fun k => decide (k.var = v)
def factB (l : List Kno) (v : Int) : Bd := if varT v = 3 then textsB (ownOf v l) else rngB v l
theorem number_ev (t n : Int) (b : Bool) (s : Str) : Ev E 352 [(Va.mk t n b s).v] ⟨vi (bif b then 1 else n), []⟩ := by
  refine Ev.of_s' E_352 (X_352 _) rfl ?_
  simp only [Va.v]
  cases b
  all_goals (conv => whnf); repeat' ((first | intro g | refine st ?_ | (first | refine b1 ?_ ?_ | refine b2 ?_ ?_ | refine Br.mk ?_ ?_) <;> intro hc | exact rfl) <;> conv => whnf)
theorem Kno.form4 (k : Kno) : ∃ t, k.v = .agg [vi k.var, vi k.lo, vi k.hi, t] ∧ IsS 1 (k.texts.map V.str) t := ⟨_, rfl, slS_is ..⟩
theorem known_ev {l : List Kno} {sv : V} (hs : IsS 4 (l.map Kno.v) sv) (v : Int) (hlen : l.length < 1000000) : Ev E 384 [sv, vi v] ⟨.tuple [vi (rngB v l).lo, vi (rngB v l).hi], []⟩ := by
  have hv := varT_ev v
  have hf : fromV v = if varT v = 2 then 0 else -1073741824 := rfl
  have ht : toV v = if varT v = 2 then 1 else 1073741824 := rfl
  unfold rngB
  generalize fromV v = f at *
  generalize toV v = t at *
  rcases hs with rfl | ⟨h0, rfl⟩
  · refine Ev.of_s' E_384 (X_384 _) rfl ?_
    (conv => whnf); repeat' ((first | intro g | refine CallS.mk _ (hv) ?_ | refine st ?_ | (first | refine b1 ?_ ?_ | refine b2 ?_ ?_ | refine Br.mk ?_ ?_) <;> intro hc | exact rfl) <;> conv => whnf)
    all_goals
      simp only [*, if_true, if_false] at hf ht
      subst hf ht
      refine LoopS.by (fun (i : Nat) => ⟨[(0, .lit 4 (l.map Kno.v)), (1, vi v), (6, vi _), (7, vi _), (8, vi (foldLo v (l.take i) _)), (9, vi (foldHi v (l.take i) _)), (10, vnat i)], []⟩) (fun i => i ≤ l.length) (fun i => l.length - i) 0 (by (refine ⟨?_, ?_⟩ <;> repeat' (first | exact True.intro | refine ai ?_ | refine And.intro ?_ ?_))) (by simp) ?_
      intro i hi
      by_cases hlt : i < l.length
      · have hx : l[i]? = some l[i] := get_lt hlt
        generalize l[i] = x at hx
        have h1 := fun a : Int => foldLo_take (v := v) (a := a) hx
        have h2 := fun a : Int => foldHi_take (v := v) (a := a) hx
        obtain ⟨tv, hxv, _⟩ := x.form4
        by_cases hxx : x.var = v
        · simp only [hxx, if_true] at h1 h2
          rw [hxx] at hxv
          (conv => whnf); repeat' ((first | intro g | refine Wit.mk _ (map_getE hx hxv rfl) ?_ | refine st ?_ | (first | refine b1 ?_ ?_ | refine b2 ?_ ?_ | refine Br.mk ?_ ?_) <;> intro hc | exact rfl) <;> conv => whnf)
          exact NxtS.mk (i + 1) (by first | omega | (dsimp only; omega)) (by omega) (by rw [h1, h2]; (refine ⟨?_, ?_⟩ <;> repeat' (first | exact True.intro | refine ai ?_ | refine And.intro ?_ ?_)))
        · simp only [hxx, if_false] at h1 h2
          (conv => whnf); repeat' ((first | intro g | refine Wit.mk _ (map_getE hx hxv rfl) ?_ | refine st ?_ | (first | refine b1 ?_ ?_ | refine b2 ?_ ?_ | refine Br.mk ?_ ?_) <;> intro hc | exact rfl) <;> conv => whnf)
          exact NxtS.mk (i + 1) (by first | omega | (dsimp only; omega)) (by omega) (by rw [h1, h2]; (refine ⟨?_, ?_⟩ <;> repeat' (first | exact True.intro | refine ai ?_ | refine And.intro ?_ ?_)))
      · have hi' : i = l.length := by omega
        subst hi'
        rw [List.take_length]
        (conv => whnf); repeat' ((first | intro g | refine st ?_ | (first | refine b1 ?_ ?_ | refine b2 ?_ ?_ | refine Br.mk ?_ ?_) <;> intro hc | exact rfl) <;> conv => whnf)
        all_goals simp [hc, nb]
  · have : l = [] := by simpa using h0
    subst this
    refine Ev.of_s' E_384 (X_384 _) rfl ?_
    (conv => whnf); repeat' ((first | intro g | refine CallS.mk _ (hv) ?_ | refine st ?_ | (first | refine b1 ?_ ?_ | refine b2 ?_ ?_ | refine Br.mk ?_ ?_) <;> intro hc | exact rfl) <;> conv => whnf)
    all_goals
      simp only [*, if_true, if_false] at hf ht
      subst hf ht
      refine LoopS.by (fun (i : Nat) => ⟨[(0, .nils), (1, vi v), (6, vi _), (7, vi _), (8, vi _), (9, vi _), (10, vnat i)], []⟩) (fun i => i = 0) (fun i => 0) 0 (by (refine ⟨?_, ?_⟩ <;> repeat' (first | exact True.intro | refine ai ?_ | refine And.intro ?_ ?_))) rfl ?_
      rintro i rfl
      (conv => whnf); repeat' ((first | intro g | refine st ?_ | (first | refine b1 ?_ ?_ | refine b2 ?_ ?_ | refine Br.mk ?_ ?_) <;> intro hc | exact rfl) <;> conv => whnf)
end Go.AM
set_option maxRecDepth 20000
namespace Go.AM
structure KFit (l : List Kno) : Prop where
  len : l.length < 1000
  tx : ∀ k ∈ l, k.texts.length < 1000
  str : ∀ k ∈ l, ∀ s ∈ k.texts, s.length < 4611686018427387904
theorem own_first {v : Int} {l : List Kno} {j : Nat} {x : Kno} (hx : l[j]? = some x) (hv : x.var = v) (hno : ∀ (i : Nat) (y : Kno), i < j → l[i]? = some y → y.var ≠ v) : ∃ r, ownOf v l = x :: r := by
  have hl := (List.getElem?_eq_some_iff.1 hx).1
  have e2 : l.drop j = x :: l.drop (j + 1) := by
    rw [List.drop_eq_getElem_cons hl]
    congr 1
    exact (List.getElem?_eq_some_iff.1 hx).2
  have e3 : (l.take j).filter (fun k => decide (k.var = v)) = [] := by
    rw [List.filter_eq_nil_iff]
    intro y hy
    obtain ⟨i, hi⟩ := List.mem_iff_getElem?.1 hy
    have hij : i < j := by
      have := (List.getElem?_eq_some_iff.1 hi).1
      simp at this; omega
    rw [List.getElem?_take_of_lt hij] at hi
    simpa using hno i y hij hi
  refine ⟨(l.drop (j + 1)).filter (fun k => decide (k.var = v)), ?_⟩
  have e4 : l.filter (fun k => decide (k.var = v)) = (l.take j).filter (fun k => decide (k.var = v)) ++ (l.drop j).filter (fun k => decide (k.var = v)) := by rw [← List.filter_append, List.take_append_drop]
  rw [ownOf, e4, e3, e2]
  simp [hv]
theorem own_none {v : Int} {l : List Kno} (hno : ∀ (i : Nat) (y : Kno), l[i]? = some y → y.var ≠ v) : ownOf v l = [] := by
  rw [ownOf, List.filter_eq_nil_iff]
  intro y hy
  obtain ⟨i, hi⟩ := List.mem_iff_getElem?.1 hy
  simpa using hno i y hi
theorem common_all (v : Int) (l : List Kno) (s : Str) : common (ownOf v l) s = l.all fun k => !decide (k.var = v) || decide (s ∈ k.texts) := by
  induction l with
  | nil => rfl
  | cons k l ih =>
    unfold ownOf common at *
    by_cases h : k.var = v
    · simp only [List.filter_cons, h, decide_true, if_true, List.all_cons, ih, Bool.not_true, Bool.false_or]
    · simp only [List.filter_cons, h, decide_false, Bool.false_eq_true, if_false, List.all_cons, ih, Bool.not_false, Bool.true_or, Bool.true_and]
theorem all_take {α : Type} {p : α → Bool} {l : List α} {i : Nat} {x : α} (h : l[i]? = some x) : (l.take (i + 1)).all p = ((l.take i).all p && p x) := by
  rw [List.take_add_one, h, List.all_append]; simp
theorem filter_take {α : Type} {p : α → Bool} {l : List α} {i : Nat} {x : α} (h : l[i]? = some x) : (l.take (i + 1)).filter p = (l.take i).filter p ++ (if p x then [x] else []) := by
  rw [List.take_add_one, h, List.filter_append]
  congr 1
  cases hp : p x <;> simp [hp]
theorem union_in {a b : List Str} {s : Str} (h : s ∈ union a b) : union a (b ++ [s]) = union a b := by
  rw [union_append]; simp [union, h]
theorem union_out {a b : List Str} {s : Str} (h : ¬ s ∈ union a b) : union a (b ++ [s]) = union a b ++ [s] := by
  rw [union_append]; simp [union, h]
set_option maxHeartbeats 1000000 in
theorem rtexts_ev {l : List Kno} (v : Int) (hl : KFit l) : Ev E 417 [.lit 4 (l.map Kno.v), vi v] ⟨.tuple [.own 1 ((textsW (ownOf v l)).map V.str), .bool (!(textsW (ownOf v l)).isEmpty)], []⟩ := by
  have hlen := hl.len
  refine Ev.of_s' E_417 (X_417 _) rfl ?_
  (conv => whnf); repeat' ((first | intro g | refine st ?_ | (first | refine b1 ?_ ?_ | refine b2 ?_ ?_ | refine Br.mk ?_ ?_) <;> intro hc | exact rfl) <;> conv => whnf)
  refine LoopS.by (fun ((i, f) : Nat × Int) => ⟨[(0, .lit 4 (l.map Kno.v)), (1, vi v), (6, vi f), (7, vi ((i : Int) - 1))], []⟩)
    (fun (i, f) => i ≤ l.length ∧ ((f = -1 ∧ ∀ (j : Nat) (y : Kno), i ≤ j → l[j]? = some y → y.var ≠ v) ∨ ∃ (j0 : Nat) (x : Kno), f = j0 ∧ i ≤ j0 ∧ l[j0]? = some x ∧ x.var = v ∧ ∀ (j : Nat) (y : Kno), i ≤ j → j < j0 → l[j]? = some y → y.var ≠ v))
    (fun (i, _) => i) (l.length, -1) ?_ ?_ ?_
  · simp only []
    (refine ⟨?_, ?_⟩ <;> repeat' (first | exact True.intro | refine And.intro (congrArg (V.int .i64) ((wrap64 (by simp only [List.length_map]; omega) (by simp only [List.length_map]; omega)).trans (by simp only [List.length_map]))) ?_ | refine ai ?_ | refine And.intro ?_ ?_))
  · refine ⟨Nat.le_refl _, .inl ⟨rfl, fun j y hj hy => ?_⟩⟩
    have := (List.getElem?_eq_some_iff.1 hy).1
    omega
  rintro ⟨i, f⟩ ⟨hi, hf⟩
  try dsimp only at hi hf
  by_cases hi0 : 0 < i
  · obtain ⟨m, rfl⟩ : ∃ m, i = m + 1 := ⟨i - 1, by omega⟩
    have hx : l[m]? = some l[m] := get_lt (by omega)
    generalize l[m] = x at hx
    obtain ⟨tv, hxv, _⟩ := x.form4
    by_cases hxx : x.var = v
    · (conv => whnf); repeat' ((first | intro g | refine Wit.mk _ (map_getE hx hxv (by omega)) ?_ | refine st ?_ | (first | refine b1 ?_ ?_ | refine b2 ?_ ?_ | refine Br.mk ?_ ?_) <;> intro hc | exact rfl) <;> conv => whnf)
      refine NxtS.mk (m, (m : Int)) (by first | omega | (dsimp only; omega)) ⟨by omega, .inr ⟨m, x, rfl, Nat.le_refl _, hx, hxx, fun j y h1 h2 => by omega⟩⟩ ?_
      (refine ⟨?_, ?_⟩ <;> repeat' (first | exact True.intro | refine And.intro (congrArg (V.int .i64) (show ((m + 1 : Nat) : Int) - 1 = (m : Int) by omega)) ?_ | refine ai ?_ | refine And.intro ?_ ?_))
    · (conv => whnf); repeat' ((first | intro g | refine Wit.mk _ (map_getE hx hxv (by omega)) ?_ | refine st ?_ | (first | refine b1 ?_ ?_ | refine b2 ?_ ?_ | refine Br.mk ?_ ?_) <;> intro hc | exact rfl) <;> conv => whnf)
      refine NxtS.mk (m, f) (by first | omega | (dsimp only; omega)) ⟨by omega, ?_⟩ (by (refine ⟨?_, ?_⟩ <;> repeat' (first | exact True.intro | refine ai ?_ | refine And.intro ?_ ?_)))
      rcases hf with ⟨h1, h2⟩ | ⟨j0, x0, h1, h2, h3, h4, h5⟩
      · refine .inl ⟨h1, fun j y hj hy => ?_⟩
        by_cases e : j = m
        · subst e; rw [hx] at hy; injection hy with hy; subst hy; exact hxx
        · exact h2 j y (by omega) hy
      · refine .inr ⟨j0, x0, h1, by omega, h3, h4, fun j y hj hj2 hy => ?_⟩
        by_cases e : j = m
        · subst e; rw [hx] at hy; injection hy with hy; subst hy; exact hxx
        · exact h5 j y (by omega) hj2 hy
  obtain rfl : i = 0 := by omega
  rcases hf with ⟨h1, h2⟩ | ⟨j0, x0, h1, h2, h3, h4, h5⟩
  · subst h1
    rw [own_none fun j y hy => h2 j y (Nat.zero_le _) hy]
    (conv => whnf); repeat' ((first | intro g | refine st ?_ | (first | refine b1 ?_ ?_ | refine b2 ?_ ?_ | refine Br.mk ?_ ?_) <;> intro hc | exact rfl) <;> conv => whnf)
  subst h1
  obtain ⟨rest, hown⟩ := own_first h3 h4 fun j y hj hy => h5 j y (Nat.zero_le _) hj hy
  obtain ⟨t0, hx0, ht0⟩ := x0.form4
  have hx0t := hl.tx x0 (List.mem_of_getElem? h3)
  have hcom := common_all v l
  rw [hown] at hcom ⊢
  simp only [textsW]
  generalize common (x0 :: rest) = com at hcom ⊢
  have lm : (x0.texts.map V.str).length = x0.texts.length := List.length_map ..
  have hm2 : modesOf E 353 = [] := rfl
  rcases ht0 with rfl | ⟨e0, rfl⟩
  rotate_left
  · have e1 : x0.texts = [] := by simpa using e0
    rw [e1]
    (conv => whnf); repeat' ((first | intro g | refine st ?_ | (first | refine b1 ?_ ?_ | refine b2 ?_ ?_ | refine Br.mk ?_ ?_) <;> intro hc | exact rfl) <;> conv => whnf)
    refine LoopS.by (fun (i : Nat) => ⟨[(0, .lit 4 (l.map Kno.v)), (1, vi v), (6, vi j0), (8, .sl 145 g 0 0), (9, vi 0)], [(145, ⟨g, 1, true, false, some []⟩)]⟩) (fun i => i = 0) (fun i => 0) 0 (by (refine ⟨?_, ?_⟩ <;> repeat' (first | exact True.intro | refine ai ?_ | refine And.intro ?_ ?_))) rfl ?_
    rintro i rfl
    (conv => whnf); repeat' ((first | intro g | refine Wit.mk _ (map_getE h3 hx0 rfl) ?_ | refine st ?_ | (first | refine b1 ?_ ?_ | refine b2 ?_ ?_ | refine Br.mk ?_ ?_) <;> intro hc | exact rfl) <;> conv => whnf)
  (conv => whnf); repeat' ((first | intro g | refine st ?_ | (first | refine b1 ?_ ?_ | refine b2 ?_ ?_ | refine Br.mk ?_ ?_) <;> intro hc | exact rfl) <;> conv => whnf)
  refine LoopS.by (fun ((i, L, g9) : Nat × List Str × Nat) => ⟨[(0, .lit 4 (l.map Kno.v)), (1, vi v), (6, vi j0), (8, .sl 145 g9 0 L.length), (9, vi i)], [(145, ⟨g9, 1, true, false, some (L.map V.str)⟩)]⟩)
    (fun (i, L, g9) => i ≤ x0.texts.length ∧ L.length ≤ i ∧ L = union [] ((x0.texts.take i).filter com)) (fun (i, _, _) => x0.texts.length - i) (0, [], g) (by (refine ⟨?_, ?_⟩ <;> repeat' (first | exact True.intro | refine ai ?_ | refine And.intro ?_ ?_))) ⟨by simp, by simp, rfl⟩ ?_
  rintro ⟨i, L, g9⟩ ⟨hi, hLi, hL⟩
  try dsimp only at hi hLi hL
  have lmL : (L.map V.str).length = L.length := List.length_map ..
  by_cases hlt : i < x0.texts.length
  rotate_left
  · have hi' : i = x0.texts.length := by omega
    subst hi'
    rw [List.take_length] at hL
    subst hL
    (conv => whnf); repeat' ((first | intro g | refine Wit.mk _ (map_getE h3 hx0 rfl) ?_ | refine st ?_ | (first | refine b1 ?_ ?_ | refine b2 ?_ ?_ | refine Br.mk ?_ ?_) <;> intro hc | exact rfl) <;> conv => whnf)
    generalize union [] (x0.texts.filter com) = L at *
    cases L with
    | nil => rfl
    | cons y ys =>
      have : decide ((0 : Int) < ((y :: ys).length : Nat)) = true := by simp
      rw [this]; rfl
  have hs : x0.texts[i]? = some x0.texts[i] := get_lt hlt
  generalize x0.texts[i] = s at hs
  have hft := filter_take (p := com) hs
  (conv => whnf); repeat' ((first | intro g | refine Wit.mk _ (map_getE h3 hx0 rfl) ?_ | refine Wit.mk _ (map_getE hs rfl rfl) ?_ | refine st ?_ | (first | refine b1 ?_ ?_ | refine b2 ?_ ?_ | refine Br.mk ?_ ?_) <;> intro hc | exact rfl) <;> conv => whnf)
  refine LoopS.by (fun (k : Nat) => ⟨[(0, .lit 4 (l.map Kno.v)), (1, vi v), (6, vi j0), (8, .sl 145 g9 0 L.length), (9, vi i), (10, .str s), (11, .bool ((l.take k).all fun k => !decide (k.var = v) || decide (s ∈ k.texts))), (12, vi k)], [(145, ⟨g9, 1, true, false, some (L.map V.str)⟩)]⟩)
    (fun k => k ≤ l.length) (fun k => l.length - k) 0 (by (refine ⟨?_, ?_⟩ <;> repeat' (first | exact True.intro | refine ai ?_ | refine And.intro ?_ ?_))) (by simp) ?_
  intro k hk
  by_cases hkl : k < l.length
  · have hx : l[k]? = some l[k] := get_lt hkl
    generalize l[k] = x at hx
    obtain ⟨tv, hxv, htv⟩ := x.form4
    have hxt := hl.tx x (List.mem_of_getElem? hx)
    have hhas := has_ev htv s (by omega)
    have hpt := htv.pure (strs_pure _)
    have hpa : V.arePure [tv, .str s] = true := by simp [V.arePure, V.isPure, hpt]
    have hat := all_take (p := fun k : Kno => !decide (k.var = v) || decide (s ∈ k.texts)) hx
    rw [hasS] at hhas
    generalize hb : (l.take k).all (fun k : Kno => !decide (k.var = v) || decide (s ∈ k.texts)) = b at *
    cases b
    · simp only [Bool.false_and] at hat
      (conv => whnf); repeat' ((first | intro g | refine Wit.mk _ (map_getE hx hxv rfl) ?_ | refine st ?_ | (first | refine b1 ?_ ?_ | refine b2 ?_ ?_ | refine Br.mk ?_ ?_) <;> intro hc | exact rfl) <;> conv => whnf)
      refine NxtS.mk (k + 1) (by first | omega | (dsimp only; omega)) (by omega) ?_
      (refine ⟨?_, ?_⟩ <;> repeat' (first | exact True.intro | refine And.intro (congrArg V.bool hat.symm) ?_ | refine ai ?_ | refine And.intro ?_ ?_))
    · by_cases hxx : x.var = v
      · simp only [hxx, decide_true, Bool.not_true, Bool.false_or, Bool.true_and] at hat
        rw [hxx] at hxv
        (conv => whnf); repeat' ((first | intro g | refine Wit.mk _ (map_getE hx hxv rfl) ?_ | refine sAct_fn (by assumption) (by first | assumption | rfl | (simp only [V.arePure, V.isPure, Bool.and_self, Bool.true_and, Bool.and_true, *])) (hhas) rfl ?_ | refine st ?_ | (first | refine b1 ?_ ?_ | refine b2 ?_ ?_ | refine Br.mk ?_ ?_) <;> intro hc | exact rfl) <;> conv => whnf)
        refine NxtS.mk (k + 1) (by first | omega | (dsimp only; omega)) (by omega) ?_
        (refine ⟨?_, ?_⟩ <;> repeat' (first | exact True.intro | refine And.intro (congrArg V.bool hat.symm) ?_ | refine ai ?_ | refine And.intro ?_ ?_))
      · simp only [hxx, decide_false, Bool.not_false, Bool.true_or, Bool.true_and] at hat
        (conv => whnf); repeat' ((first | intro g | refine Wit.mk _ (map_getE hx hxv rfl) ?_ | refine sAct_fn (by assumption) (by first | assumption | rfl | (simp only [V.arePure, V.isPure, Bool.and_self, Bool.true_and, Bool.and_true, *])) (hhas) rfl ?_ | refine st ?_ | (first | refine b1 ?_ ?_ | refine b2 ?_ ?_ | refine Br.mk ?_ ?_) <;> intro hc | exact rfl) <;> conv => whnf)
        refine NxtS.mk (k + 1) (by first | omega | (dsimp only; omega)) (by omega) ?_
        (refine ⟨?_, ?_⟩ <;> repeat' (first | exact True.intro | refine And.intro (congrArg V.bool hat.symm) ?_ | refine ai ?_ | refine And.intro ?_ ?_))
  · obtain rfl : k = l.length := by omega
    rw [List.take_length, ← hcom]
    by_cases hcs : com s = true
    · rw [hcs] at hft ⊢
      have hhas := has_ev (sv := .lit 1 (L.map V.str)) (.inl rfl) s (by omega)
      rw [hasS] at hhas
      simp only [if_true] at hft
      by_cases hm : s ∈ L
      · rw [decide_eq_true hm] at hhas
        have hU := union_in (a := []) (b := (x0.texts.take i).filter com) (s := s) (by rw [← hL]; exact hm)
        rw [← hft, ← hL] at hU
        (conv => whnf); repeat' ((first | intro g | refine CallS.mk _ (hhas) ?_ | refine st ?_ | (first | refine b1 ?_ ?_ | refine b2 ?_ ?_ | refine Br.mk ?_ ?_) <;> intro hc | exact rfl) <;> conv => whnf)
        exact NxtS.mk (i + 1, L, g9) (by first | omega | (dsimp only; omega)) ⟨by omega, by omega, hU.symm⟩ (by (refine ⟨?_, ?_⟩ <;> repeat' (first | exact True.intro | refine ai ?_ | refine And.intro ?_ ?_)))
      · rw [decide_eq_false hm] at hhas
        have hU := union_out (a := []) (b := (x0.texts.take i).filter com) (s := s) (by rw [← hL]; exact hm)
        rw [← hft, ← hL] at hU
        (conv => whnf); repeat' ((first | intro g | refine CallS.mk _ (hhas) ?_ | refine st ?_ | (first | refine b1 ?_ ?_ | refine b2 ?_ ?_ | refine Br.mk ?_ ?_) <;> intro hc | exact rfl) <;> conv => whnf)
        exact NxtS.mk (i + 1, L ++ [s], g) (by first | omega | (dsimp only; omega)) ⟨by omega, by simp; omega, hU.symm⟩ (by (refine ⟨?_, ?_⟩ <;> repeat' (first | exact True.intro | refine ai ?_ | refine And.intro ?_ ?_)))
    · have hcs' : com s = false := by simpa using hcs
      rw [hcs'] at hft ⊢
      simp only [Bool.false_eq_true, if_false, List.append_nil] at hft
      rw [← hft] at hL
      (conv => whnf); repeat' ((first | intro g | refine st ?_ | (first | refine b1 ?_ ?_ | refine b2 ?_ ?_ | refine Br.mk ?_ ?_) <;> intro hc | exact rfl) <;> conv => whnf)
      exact NxtS.mk (i + 1, L, g9) (by first | omega | (dsimp only; omega)) ⟨by omega, by omega, hL⟩ (by (refine ⟨?_, ?_⟩ <;> repeat' (first | exact True.intro | refine ai ?_ | refine And.intro ?_ ?_)))
end Go.AM
