/-
  Texts of the proof, joined by program: PData, PLib, PLibB, PSmall, PSize, SMadeA. Own work.
-/
import Derived.Test.YtjmcpijpclfakaaGreatData
set_option linter.unusedSimpArgs false
set_option linter.unusedVariables false
set_option maxRecDepth 20000
namespace Go.AM
theorem map_getE {α : Type} {f : α → V} {l : List α} {i : Nat} {n : Int} {x : α} {y : V} (h : l[i]? = some x) (hf : f x = y) (hn : n = (i : Int)) : (l.map f)[n.toNat]? = some y := by
  subst hn; subst hf; simp [h]
structure Va where
  t : Int
  n : Int
  b : Bool
  s : Str
def Va.v (v : Va) : V := .agg [vi v.t, vi v.n, .bool v.b, .str v.s]
inductive Ex where
  | mk (op var : Int) (val : Va) (nl : Bool) (l : List Ex)
def lv (nl : Bool) : List V → V
  | [] => bif nl then .nils else .lit 7 []
  | x :: xs => .lit 7 (x :: xs)
mutual
def Ex.v : Ex → V
  | .mk op var val nl l => .agg [vi op, vi var, vi val.t, vi val.n, .bool val.b, .str val.s, lv nl (Ex.vs l)]
def Ex.vs : List Ex → List V
  | [] => []
  | e :: l => e.v :: Ex.vs l
end
mutual
def Ex.size : Ex → Nat
  | .mk _ _ _ _ l => 1 + Ex.sizes l
def Ex.sizes : List Ex → Nat
  | [] => 0
  | e :: l => e.size + Ex.sizes l
end
theorem Ex.vs_eq : ∀ l : List Ex, Ex.vs l = l.map Ex.v
  | [] => by simp [Ex.vs]
  | e :: l => by simp [Ex.vs, Ex.vs_eq l]
theorem Ex.v_eq (op var : Int) (val : Va) (nl : Bool) (l : List Ex) : (Ex.mk op var val nl l).v = .agg [vi op, vi var, vi val.t, vi val.n, .bool val.b, .str val.s, lv nl (l.map Ex.v)] := by
  simp only [Ex.v, Ex.vs_eq]
theorem lv_cases (nl : Bool) (vs : List V) : lv nl vs = .nils ∧ vs = [] ∨ lv nl vs = .lit 7 vs := by
  cases vs with
  | nil => cases nl <;> simp [lv]
  | cons => exact .inr rfl
theorem Ex.form (x : Ex) : ∃ a b c d e f L, x.v = .agg [vi a, vi b, vi c, vi d, .bool e, .str f, L] ∧ (L = .nils ∨ ∃ ys, L = .lit 7 ys) := by
  obtain ⟨op, var, val, nl, l⟩ := x
  refine ⟨_, _, _, _, _, _, _, Ex.v_eq .., ?_⟩
  rcases lv_cases nl (l.map Ex.v) with h | h
  · exact .inl h.1
  · exact .inr ⟨_, h⟩
theorem Ex.pure (x : Ex) : V.isPure x.v = true := by
  obtain ⟨a, b, c, d, e, f, L, h, hL⟩ := x.form
  rw [h]
  rcases hL with rfl | ⟨ys, rfl⟩ <;> rfl
theorem Ex.pures : ∀ l : List Ex, V.arePure (l.map Ex.v) = true
  | [] => rfl
  | x :: l => by simp [V.arePure, x.pure, Ex.pures l]
theorem Ex.size_pos (e : Ex) : 0 < e.size := by
  cases e; simp only [Ex.size]; omega
theorem Ex.sizes_append : ∀ a b : List Ex, Ex.sizes (a ++ b) = Ex.sizes a + Ex.sizes b
  | [], b => by simp [Ex.sizes]
  | x :: a, b => by simp only [List.cons_append, Ex.sizes, Ex.sizes_append a b]; omega
theorem Ex.size_mem : ∀ {l : List Ex} {x : Ex}, x ∈ l → x.size ≤ Ex.sizes l
  | [], _, h => by simp at h
  | y :: l, x, h => by
    simp only [Ex.sizes]
    rcases List.mem_cons.1 h with rfl | h
    · omega
    · have := Ex.size_mem h; omega
theorem Ex.length_le : ∀ l : List Ex, l.length ≤ Ex.sizes l
  | [] => by simp
  | x :: l => by
    have := Ex.length_le l
    have := x.size_pos
    simp only [List.length_cons, Ex.sizes]; omega
theorem Ex.sizes_take {l : List Ex} {i : Nat} {x : Ex} (h : l[i]? = some x) : Ex.sizes (l.take (i + 1)) = Ex.sizes (l.take i) + x.size := by
  rw [List.take_add_one, h]
  simp [Ex.sizes_append, Ex.sizes]
theorem Ex.sizes_take_le (l : List Ex) (i : Nat) : Ex.sizes (l.take i) ≤ Ex.sizes l := by
  have := Ex.sizes_append (l.take i) (l.drop i)
  rw [List.take_append_drop] at this
  omega
end Go.AM
set_option maxRecDepth 20000
namespace Go.AM
def IsS (sz : Nat) (xs : List V) (v : V) : Prop := v = .lit sz xs ∨ xs = [] ∧ v = .nils
theorem IsS.pure {sz : Nat} {xs : List V} {v : V} (h : IsS sz xs v) (hx : V.arePure xs = true) : V.isPure v = true := by
  rcases h with rfl | ⟨_, rfl⟩
  · simp [V.isPure, hx]
  · rfl
theorem any_firstIdx {α : Type} (p : α → Bool) (l : List α) : l.any p = decide (0 ≤ firstIdx p l) := by
  rcases firstIdx_cases p l with ⟨h, hn⟩ | ⟨i, x, h, hx, hp⟩
  · rw [h]
    have : l.any p = false := by
      rw [List.any_eq_false]
      intro x hx
      obtain ⟨i, hi⟩ := List.mem_iff_getElem?.1 hx
      simp [hn i x hi]
    rw [this]; rfl
  · rw [h]
    have : l.any p = true := List.any_eq_true.2 ⟨x, List.mem_of_getElem? hx, hp⟩
    rw [this]; simp
def slS (nl : Bool) : List Str → V
  | [] => bif nl then .nils else .lit 1 []
  | x :: xs => .lit 1 ((x :: xs).map V.str)
theorem slS_is (nl : Bool) (l : List Str) : IsS 1 (l.map V.str) (slS nl l) := by
  cases l with
  | nil => cases nl
           · exact .inl rfl
           · exact .inr ⟨rfl, rfl⟩
  | cons x xs => exact .inl rfl
theorem strs_pure (l : List Str) : V.arePure (l.map V.str) = true := AM.pures (fun _ => rfl) l
theorem slS_pure (nl : Bool) (l : List Str) : V.isPure (slS nl l) = true := (slS_is nl l).pure (strs_pure l)
theorem slS_form (nl : Bool) (l : List Str) : slS nl l = .nils ∧ l = [] ∨ slS nl l = .lit 1 (l.map V.str) := by
  rcases slS_is nl l with h | ⟨h0, h⟩
  · exact .inr h
  · exact .inl ⟨h, by simpa using h0⟩
structure Kno where
  var : Int
  lo : Int
  hi : Int
  nt : Bool
  texts : List Str
def Kno.v (k : Kno) : V := .agg [vi k.var, vi k.lo, vi k.hi, slS k.nt k.texts]
theorem Kno.pure (k : Kno) : V.isPure k.v = true := by
  simp only [Kno.v, V.isPure, V.arePure, slS_pure]; rfl
theorem Kno.form (k : Kno) : k.v = .agg [vi k.var, vi k.lo, vi k.hi, .nils] ∧ k.texts = [] ∨ k.v = .agg [vi k.var, vi k.lo, vi k.hi, .lit 1 (k.texts.map V.str)] := by
  rcases slS_form k.nt k.texts with ⟨h, h'⟩ | h
  · exact .inl ⟨by simp [Kno.v, h], h'⟩
  · exact .inr (by simp [Kno.v, h])
theorem pindex_int {l : List (Int)} {sv : V} (hs : IsS 1 (l.map vi) sv) {g : Nat} {caps : List V} (hc : V.arePure caps = true) {p : Int → Bool} (hlen : l.length < 4611686018427387904)
    (hp : ∀ x ∈ l, Ev E g (vi x :: caps) ⟨.bool (p x), []⟩) (hm : modesOf E g = []) : Ev E 280 [sv, .fn g caps] ⟨vi (firstIdx p l), []⟩ := by
  have hpu : ∀ x, (vi x).isPure = true := (fun _ => rfl)
  have hpus := AM.pures hpu l
  rcases hs with rfl | ⟨h0, rfl⟩
  · refine Ev.of_s' E_280 (X_280 _) rfl ?_
    (conv => whnf); repeat' ((first | intro g | refine Need.mk (by simp [V.arePure, V.isPure, hc, hpus]) ?_ | refine st ?_ | (first | refine b1 ?_ ?_ | refine b2 ?_ ?_ | refine Br.mk ?_ ?_) <;> intro hc | exact rfl) <;> conv => whnf)
    refine LoopS.by (fun i : Nat => ⟨[(0, .lit 1 (l.map vi)), (1, .fn g caps), (7, vnat (l.map vi).length), (8, vnat i)], []⟩) (fun i => i ≤ l.length ∧ ∀ (j : Nat) y, j < i → l[j]? = some y → p y = false) (fun i => l.length - i) 0 ?_ ?_ ?_
    · (refine ⟨?_, ?_⟩ <;> repeat' (first | exact True.intro | refine ai ?_ | refine And.intro ?_ ?_))
    · simp
    rintro i ⟨hi, hno⟩
    have hcap := hc
    by_cases hlt : i < l.length
    · have hx : l[i]? = some l[i] := get_lt hlt
      have hpx := hp l[i] (List.getElem_mem hlt)
      have hpui := hpu l[i]
      generalize l[i] = x at hx hpx hpui
      have hv : vi x = V.int .i64 x := rfl
      (conv => whnf); repeat' ((first | intro g | refine Wit.mk _ (map_getE hx hv rfl) ?_ | refine sAct_fn (by assumption) (by first | assumption | rfl | (simp only [V.arePure, V.isPure, Bool.and_self, Bool.true_and, Bool.and_true, *])) (hpx) rfl ?_ | refine st ?_ | (first | refine b1 ?_ ?_ | refine b2 ?_ ?_ | refine Br.mk ?_ ?_) <;> intro hc | exact rfl) <;> conv => whnf)
      · rw [firstIdx_found hno hx hc]
      · refine NxtS.mk (i+1) (by first | omega | (dsimp only; omega)) ?_ (by (refine ⟨?_, ?_⟩ <;> repeat' (first | exact True.intro | refine ai ?_ | refine And.intro ?_ ?_)))
        refine ⟨by omega, fun j y hj hy => ?_⟩
        by_cases e : j = i
        · subst e
          rw [hx] at hy
          injection hy with hy; subst hy; exact hc
        · exact hno j y (by omega) hy
    · (conv => whnf); repeat' ((first | intro g | refine st ?_ | (first | refine b1 ?_ ?_ | refine b2 ?_ ?_ | refine Br.mk ?_ ?_) <;> intro hc | exact rfl) <;> conv => whnf)
      rw [firstIdx_none fun j y hy => hno j y (by have := (List.getElem?_eq_some_iff.1 hy).1; omega) hy]
  · have : l = [] := by simpa using h0
    subst this
    refine Ev.of_s' E_280 (X_280 _) rfl ?_
    (conv => whnf); repeat' ((first | intro g | refine Need.mk (by simp [V.arePure, V.isPure, hc]) ?_ | refine st ?_ | (first | refine b1 ?_ ?_ | refine b2 ?_ ?_ | refine Br.mk ?_ ?_) <;> intro hc | exact rfl) <;> conv => whnf)
    refine LoopS.by (fun i : Nat => ⟨[(0, .nils), (1, .fn g caps), (7, vnat 0), (8, vnat i)], []⟩) (fun i => i = 0) (fun i => 0) 0 ?_ rfl ?_
    · (refine ⟨?_, ?_⟩ <;> repeat' (first | exact True.intro | refine ai ?_ | refine And.intro ?_ ?_))
    rintro i rfl
    (conv => whnf); repeat' ((first | intro g | refine st ?_ | (first | refine b1 ?_ ?_ | refine b2 ?_ ?_ | refine Br.mk ?_ ?_) <;> intro hc | exact rfl) <;> conv => whnf)
theorem pcont_int {l : List (Int)} {sv : V} (hs : IsS 1 (l.map vi) sv) {g : Nat} {caps : List V} (hc : V.arePure caps = true) {p : Int → Bool} (hlen : l.length < 4611686018427387904)
    (hp : ∀ x ∈ l, Ev E g (vi x :: caps) ⟨.bool (p x), []⟩) (hm : modesOf E g = []) : Ev E 259 [sv, .fn g caps] ⟨.bool (l.any p), []⟩ := by
  have h := pindex_int hs hc hlen hp hm
  have hpu : ∀ x, (vi x).isPure = true := (fun _ => rfl)
  have hpus := AM.pures hpu l
  have hm2 : modesOf E 280 = [] := rfl
  have hsp : V.isPure sv = true := hs.pure (AM.pures hpu l)
  have hf : l.any p = decide (0 ≤ firstIdx p l) := any_firstIdx p l
  rw [hf]
  refine Ev.of_s' E_259 (X_259 _) rfl ?_
  rcases hs with rfl | ⟨h0, rfl⟩
  all_goals
    (conv => whnf); repeat' ((first | intro g | refine Need.mk (by simp [V.arePure, V.isPure, hc, hsp]) ?_ | refine st ?_ | (first | refine b1 ?_ ?_ | refine b2 ?_ ?_ | refine Br.mk ?_ ?_) <;> intro hc | exact rfl) <;> conv => whnf)
    refine sAct_fn hm2 (by simp [V.arePure, V.isPure, hc, hpus]) h rfl ?_
    (conv => whnf); repeat' ((first | intro g | refine st ?_ | (first | refine b1 ?_ ?_ | refine b2 ?_ ?_ | refine Br.mk ?_ ?_) <;> intro hc | exact rfl) <;> conv => whnf)
theorem pindex_str {l : List (Str)} {sv : V} (hs : IsS 1 (l.map V.str) sv) {g : Nat} {caps : List V} (hc : V.arePure caps = true) {p : Str → Bool} (hlen : l.length < 4611686018427387904)
    (hp : ∀ x ∈ l, Ev E g (V.str x :: caps) ⟨.bool (p x), []⟩) (hm : modesOf E g = []) : Ev E 438 [sv, .fn g caps] ⟨vi (firstIdx p l), []⟩ := by
  have hpu : ∀ x, (V.str x).isPure = true := (fun _ => rfl)
  have hpus := AM.pures hpu l
  rcases hs with rfl | ⟨h0, rfl⟩
  · refine Ev.of_s' E_438 (X_438 _) rfl ?_
    (conv => whnf); repeat' ((first | intro g | refine Need.mk (by simp [V.arePure, V.isPure, hc, hpus]) ?_ | refine st ?_ | (first | refine b1 ?_ ?_ | refine b2 ?_ ?_ | refine Br.mk ?_ ?_) <;> intro hc | exact rfl) <;> conv => whnf)
    refine LoopS.by (fun i : Nat => ⟨[(0, .lit 1 (l.map V.str)), (1, .fn g caps), (7, vnat (l.map V.str).length), (8, vnat i)], []⟩) (fun i => i ≤ l.length ∧ ∀ (j : Nat) y, j < i → l[j]? = some y → p y = false) (fun i => l.length - i) 0 ?_ ?_ ?_
    · (refine ⟨?_, ?_⟩ <;> repeat' (first | exact True.intro | refine ai ?_ | refine And.intro ?_ ?_))
    · simp
    rintro i ⟨hi, hno⟩
    have hcap := hc
    by_cases hlt : i < l.length
    · have hx : l[i]? = some l[i] := get_lt hlt
      have hpx := hp l[i] (List.getElem_mem hlt)
      have hpui := hpu l[i]
      generalize l[i] = x at hx hpx hpui
      have hv : V.str x = V.str x := rfl
      (conv => whnf); repeat' ((first | intro g | refine Wit.mk _ (map_getE hx hv rfl) ?_ | refine sAct_fn (by assumption) (by first | assumption | rfl | (simp only [V.arePure, V.isPure, Bool.and_self, Bool.true_and, Bool.and_true, *])) (hpx) rfl ?_ | refine st ?_ | (first | refine b1 ?_ ?_ | refine b2 ?_ ?_ | refine Br.mk ?_ ?_) <;> intro hc | exact rfl) <;> conv => whnf)
      · rw [firstIdx_found hno hx hc]
      · refine NxtS.mk (i+1) (by first | omega | (dsimp only; omega)) ?_ (by (refine ⟨?_, ?_⟩ <;> repeat' (first | exact True.intro | refine ai ?_ | refine And.intro ?_ ?_)))
        refine ⟨by omega, fun j y hj hy => ?_⟩
        by_cases e : j = i
        · subst e
          rw [hx] at hy
          injection hy with hy; subst hy; exact hc
        · exact hno j y (by omega) hy
    · (conv => whnf); repeat' ((first | intro g | refine st ?_ | (first | refine b1 ?_ ?_ | refine b2 ?_ ?_ | refine Br.mk ?_ ?_) <;> intro hc | exact rfl) <;> conv => whnf)
      rw [firstIdx_none fun j y hy => hno j y (by have := (List.getElem?_eq_some_iff.1 hy).1; omega) hy]
  · have : l = [] := by simpa using h0
    subst this
    refine Ev.of_s' E_438 (X_438 _) rfl ?_
    (conv => whnf); repeat' ((first | intro g | refine Need.mk (by simp [V.arePure, V.isPure, hc]) ?_ | refine st ?_ | (first | refine b1 ?_ ?_ | refine b2 ?_ ?_ | refine Br.mk ?_ ?_) <;> intro hc | exact rfl) <;> conv => whnf)
    refine LoopS.by (fun i : Nat => ⟨[(0, .nils), (1, .fn g caps), (7, vnat 0), (8, vnat i)], []⟩) (fun i => i = 0) (fun i => 0) 0 ?_ rfl ?_
    · (refine ⟨?_, ?_⟩ <;> repeat' (first | exact True.intro | refine ai ?_ | refine And.intro ?_ ?_))
    rintro i rfl
    (conv => whnf); repeat' ((first | intro g | refine st ?_ | (first | refine b1 ?_ ?_ | refine b2 ?_ ?_ | refine Br.mk ?_ ?_) <;> intro hc | exact rfl) <;> conv => whnf)
theorem pcont_str {l : List (Str)} {sv : V} (hs : IsS 1 (l.map V.str) sv) {g : Nat} {caps : List V} (hc : V.arePure caps = true) {p : Str → Bool} (hlen : l.length < 4611686018427387904)
    (hp : ∀ x ∈ l, Ev E g (V.str x :: caps) ⟨.bool (p x), []⟩) (hm : modesOf E g = []) : Ev E 426 [sv, .fn g caps] ⟨.bool (l.any p), []⟩ := by
  have h := pindex_str hs hc hlen hp hm
  have hpu : ∀ x, (V.str x).isPure = true := (fun _ => rfl)
  have hpus := AM.pures hpu l
  have hm2 : modesOf E 438 = [] := rfl
  have hsp : V.isPure sv = true := hs.pure (AM.pures hpu l)
  have hf : l.any p = decide (0 ≤ firstIdx p l) := any_firstIdx p l
  rw [hf]
  refine Ev.of_s' E_426 (X_426 _) rfl ?_
  rcases hs with rfl | ⟨h0, rfl⟩
  all_goals
    (conv => whnf); repeat' ((first | intro g | refine Need.mk (by simp [V.arePure, V.isPure, hc, hsp]) ?_ | refine st ?_ | (first | refine b1 ?_ ?_ | refine b2 ?_ ?_ | refine Br.mk ?_ ?_) <;> intro hc | exact rfl) <;> conv => whnf)
    refine sAct_fn hm2 (by simp [V.arePure, V.isPure, hc, hpus]) h rfl ?_
    (conv => whnf); repeat' ((first | intro g | refine st ?_ | (first | refine b1 ?_ ?_ | refine b2 ?_ ?_ | refine Br.mk ?_ ?_) <;> intro hc | exact rfl) <;> conv => whnf)
theorem pindex_kno {l : List (Kno)} {sv : V} (hs : IsS 4 (l.map Kno.v) sv) {g : Nat} {caps : List V} (hc : V.arePure caps = true) {p : Kno → Bool} (hlen : l.length < 4611686018427387904)
    (hp : ∀ x ∈ l, Ev E g (Kno.v x :: caps) ⟨.bool (p x), []⟩) (hm : modesOf E g = []) : Ev E 390 [sv, .fn g caps] ⟨vi (firstIdx p l), []⟩ := by
  have hpu : ∀ x, (Kno.v x).isPure = true := Kno.pure
  have hpus := AM.pures hpu l
  rcases hs with rfl | ⟨h0, rfl⟩
  · refine Ev.of_s' E_390 (X_390 _) rfl ?_
    (conv => whnf); repeat' ((first | intro g | refine Need.mk (by simp [V.arePure, V.isPure, hc, hpus]) ?_ | refine st ?_ | (first | refine b1 ?_ ?_ | refine b2 ?_ ?_ | refine Br.mk ?_ ?_) <;> intro hc | exact rfl) <;> conv => whnf)
    refine LoopS.by (fun i : Nat => ⟨[(0, .lit 4 (l.map Kno.v)), (1, .fn g caps), (7, vnat (l.map Kno.v).length), (8, vnat i)], []⟩) (fun i => i ≤ l.length ∧ ∀ (j : Nat) y, j < i → l[j]? = some y → p y = false) (fun i => l.length - i) 0 ?_ ?_ ?_
    · (refine ⟨?_, ?_⟩ <;> repeat' (first | exact True.intro | refine ai ?_ | refine And.intro ?_ ?_))
    · simp
    rintro i ⟨hi, hno⟩
    have hcap := hc
    by_cases hlt : i < l.length
    · have hx : l[i]? = some l[i] := get_lt hlt
      have hpx := hp l[i] (List.getElem_mem hlt)
      have hpui := hpu l[i]
      generalize l[i] = x at hx hpx hpui
      obtain ⟨a, b, c, t, hv⟩ : ∃ a b c t, x.v = .agg [vi a, vi b, vi c, t] := ⟨_, _, _, _, rfl⟩; rw [hv] at hpx hpui; have hpt : V.isPure t = true := (by simpa [V.isPure, V.arePure] using hpui); have hpa : V.arePure ([V.agg [vi a, vi b, vi c, t]] ++ caps) = true := by simp [V.arePure, V.isPure, hpt, hcap]
      (conv => whnf); repeat' ((first | intro g | refine Wit.mk _ (map_getE hx hv rfl) ?_ | refine sAct_fn (by assumption) (by first | assumption | rfl | (simp only [V.arePure, V.isPure, Bool.and_self, Bool.true_and, Bool.and_true, *])) (hpx) rfl ?_ | refine st ?_ | (first | refine b1 ?_ ?_ | refine b2 ?_ ?_ | refine Br.mk ?_ ?_) <;> intro hc | exact rfl) <;> conv => whnf)
      · rw [firstIdx_found hno hx hc]
      · refine NxtS.mk (i+1) (by first | omega | (dsimp only; omega)) ?_ (by (refine ⟨?_, ?_⟩ <;> repeat' (first | exact True.intro | refine ai ?_ | refine And.intro ?_ ?_)))
        refine ⟨by omega, fun j y hj hy => ?_⟩
        by_cases e : j = i
        · subst e
          rw [hx] at hy
          injection hy with hy; subst hy; exact hc
        · exact hno j y (by omega) hy
    · (conv => whnf); repeat' ((first | intro g | refine st ?_ | (first | refine b1 ?_ ?_ | refine b2 ?_ ?_ | refine Br.mk ?_ ?_) <;> intro hc | exact rfl) <;> conv => whnf)
      rw [firstIdx_none fun j y hy => hno j y (by have := (List.getElem?_eq_some_iff.1 hy).1; omega) hy]
  · have : l = [] := by simpa using h0
    subst this
    refine Ev.of_s' E_390 (X_390 _) rfl ?_
    (conv => whnf); repeat' ((first | intro g | refine Need.mk (by simp [V.arePure, V.isPure, hc]) ?_ | refine st ?_ | (first | refine b1 ?_ ?_ | refine b2 ?_ ?_ | refine Br.mk ?_ ?_) <;> intro hc | exact rfl) <;> conv => whnf)
    refine LoopS.by (fun i : Nat => ⟨[(0, .nils), (1, .fn g caps), (7, vnat 0), (8, vnat i)], []⟩) (fun i => i = 0) (fun i => 0) 0 ?_ rfl ?_
    · (refine ⟨?_, ?_⟩ <;> repeat' (first | exact True.intro | refine ai ?_ | refine And.intro ?_ ?_))
    rintro i rfl
    (conv => whnf); repeat' ((first | intro g | refine st ?_ | (first | refine b1 ?_ ?_ | refine b2 ?_ ?_ | refine Br.mk ?_ ?_) <;> intro hc | exact rfl) <;> conv => whnf)
theorem pcont_kno {l : List (Kno)} {sv : V} (hs : IsS 4 (l.map Kno.v) sv) {g : Nat} {caps : List V} (hc : V.arePure caps = true) {p : Kno → Bool} (hlen : l.length < 4611686018427387904)
    (hp : ∀ x ∈ l, Ev E g (Kno.v x :: caps) ⟨.bool (p x), []⟩) (hm : modesOf E g = []) : Ev E 346 [sv, .fn g caps] ⟨.bool (l.any p), []⟩ := by
  have h := pindex_kno hs hc hlen hp hm
  have hpu : ∀ x, (Kno.v x).isPure = true := Kno.pure
  have hpus := AM.pures hpu l
  have hm2 : modesOf E 390 = [] := rfl
  have hsp : V.isPure sv = true := hs.pure (AM.pures hpu l)
  have hf : l.any p = decide (0 ≤ firstIdx p l) := any_firstIdx p l
  rw [hf]
  refine Ev.of_s' E_346 (X_346 _) rfl ?_
  rcases hs with rfl | ⟨h0, rfl⟩
  all_goals
    (conv => whnf); repeat' ((first | intro g | refine Need.mk (by simp [V.arePure, V.isPure, hc, hsp]) ?_ | refine st ?_ | (first | refine b1 ?_ ?_ | refine b2 ?_ ?_ | refine Br.mk ?_ ?_) <;> intro hc | exact rfl) <;> conv => whnf)
    refine sAct_fn hm2 (by simp [V.arePure, V.isPure, hc, hpus]) h rfl ?_
    (conv => whnf); repeat' ((first | intro g | refine st ?_ | (first | refine b1 ?_ ?_ | refine b2 ?_ ?_ | refine Br.mk ?_ ?_) <;> intro hc | exact rfl) <;> conv => whnf)
end Go.AM
set_option maxRecDepth 20000
namespace Go.AM
def idxS (s : Str) (l : List Str) : V := vi (firstIdx (fun x => decide (x = s)) l)
def hasS (s : Str) (l : List Str) : V := .bool (decide (s ∈ l))
theorem firstEq_found {l : List Str} {s : Str} {i : Nat} (hno : ∀ (j : Nat) (y : Str), j < i → l[j]? = some y → y ≠ s) (hx : l[i]? = some s) : firstIdx (fun x => decide (x = s)) l = (i : Int) :=
  firstIdx_found (fun j y hj hy => by simpa using hno j y hj hy) hx (by simp)
theorem firstEq_none {l : List Str} {s : Str} (hno : ∀ (j : Nat) (y : Str), l[j]? = some y → y ≠ s) : firstIdx (fun x => decide (x = s)) l = -1 :=
  firstIdx_none (fun j y hy => by simpa using hno j y hy)
theorem has_ev {l : List Str} {sv : V} (hs : IsS 1 (l.map V.str) sv) (s : Str) (hlen : l.length < 4611686018427387904) : Ev E 353 [sv, .str s] ⟨hasS s l, []⟩ := by
  have hpus := strs_pure l
  rcases hs with rfl | ⟨h0, rfl⟩
  · refine Ev.of_s' E_353 (X_353 _) rfl ?_
    (conv => whnf); repeat' ((first | intro g | refine Need.mk (by simp [V.arePure, V.isPure, hpus]) ?_ | refine st ?_ | (first | refine b1 ?_ ?_ | refine b2 ?_ ?_ | refine Br.mk ?_ ?_) <;> intro hc | exact rfl) <;> conv => whnf)
    refine LoopS.by (fun i : Nat => ⟨[(0, .lit 1 (l.map V.str)), (1, .str s), (5, vnat i)], []⟩) (fun i => i ≤ l.length ∧ ∀ (j : Nat) (y : Str), j < i → l[j]? = some y → y ≠ s) (fun i => l.length - i) 0 ?_ ?_ ?_
    · (refine ⟨?_, ?_⟩ <;> repeat' (first | exact True.intro | refine ai ?_ | refine And.intro ?_ ?_))
    · simp
    rintro i ⟨hi, hno⟩
    by_cases hlt : i < l.length
    · have hx : l[i]? = some l[i] := get_lt hlt
      generalize l[i] = x at hx
      by_cases e : x = s
      · subst e
        have hm : x ∈ l := List.mem_of_getElem? hx
        have hf := firstEq_found hno hx
        (conv => whnf); repeat' ((first | intro g | refine Wit.mk _ (map_getE hx rfl rfl) ?_ | refine st ?_ | (first | refine b1 ?_ ?_ | refine b2 ?_ ?_ | refine Br.mk ?_ ?_) <;> intro hc | exact rfl) <;> conv => whnf)
        all_goals simp [hasS, hm]
      · have e' : ¬ s = x := fun h => e h.symm
        (conv => whnf); repeat' ((first | intro g | refine Wit.mk _ (map_getE hx rfl rfl) ?_ | refine st ?_ | (first | refine b1 ?_ ?_ | refine b2 ?_ ?_ | refine Br.mk ?_ ?_) <;> intro hc | exact rfl) <;> conv => whnf)
        refine NxtS.mk (i+1) (by first | omega | (dsimp only; omega)) ?_ (by (refine ⟨?_, ?_⟩ <;> repeat' (first | exact True.intro | refine ai ?_ | refine And.intro ?_ ?_)))
        refine ⟨by omega, fun j y hj hy => ?_⟩
        by_cases e2 : j = i
        · subst e2
          rw [hx] at hy
          injection hy with hy; subst hy; exact e
        · exact hno j y (by omega) hy
    · have hall : ∀ (j : Nat) (y : Str), l[j]? = some y → y ≠ s := fun j y hy => hno j y (by have := (List.getElem?_eq_some_iff.1 hy).1; omega) hy
      have hm : ¬ s ∈ l := fun h => by
        obtain ⟨j, hj⟩ := List.mem_iff_getElem?.1 h
        exact hall j s hj rfl
      have hf := firstEq_none hall
      (conv => whnf); repeat' ((first | intro g | refine st ?_ | (first | refine b1 ?_ ?_ | refine b2 ?_ ?_ | refine Br.mk ?_ ?_) <;> intro hc | exact rfl) <;> conv => whnf)
      simp [hasS, hm]
  · have : l = [] := by simpa using h0
    subst this
    refine Ev.of_s' E_353 (X_353 _) rfl ?_
    (conv => whnf); repeat' ((first | intro g | refine st ?_ | (first | refine b1 ?_ ?_ | refine b2 ?_ ?_ | refine Br.mk ?_ ?_) <;> intro hc | exact rfl) <;> conv => whnf)
    refine LoopS.by (fun i : Nat => ⟨[(0, .nils), (1, .str s), (5, vnat i)], []⟩) (fun i => i = 0) (fun i => 0) 0 ?_ rfl ?_
    · (refine ⟨?_, ?_⟩ <;> repeat' (first | exact True.intro | refine ai ?_ | refine And.intro ?_ ?_))
    rintro i rfl
    (conv => whnf); repeat' ((first | intro g | refine st ?_ | (first | refine b1 ?_ ?_ | refine b2 ?_ ?_ | refine Br.mk ?_ ?_) <;> intro hc | exact rfl) <;> conv => whnf)
theorem sidx_ev {l : List Str} {sv : V} (hs : IsS 1 (l.map V.str) sv) (s : Str) (hlen : l.length < 4611686018427387904) : Ev E 393 [sv, .str s] ⟨idxS s l, []⟩ := by
  have hpus := strs_pure l
  rcases hs with rfl | ⟨h0, rfl⟩
  · refine Ev.of_s' E_393 (X_393 _) rfl ?_
    (conv => whnf); repeat' ((first | intro g | refine Need.mk (by simp [V.arePure, V.isPure, hpus]) ?_ | refine st ?_ | (first | refine b1 ?_ ?_ | refine b2 ?_ ?_ | refine Br.mk ?_ ?_) <;> intro hc | exact rfl) <;> conv => whnf)
    refine LoopS.by (fun i : Nat => ⟨[(0, .lit 1 (l.map V.str)), (1, .str s), (7, vnat (l.map V.str).length), (8, vnat i)], []⟩) (fun i => i ≤ l.length ∧ ∀ (j : Nat) (y : Str), j < i → l[j]? = some y → y ≠ s) (fun i => l.length - i) 0 ?_ ?_ ?_
    · (refine ⟨?_, ?_⟩ <;> repeat' (first | exact True.intro | refine ai ?_ | refine And.intro ?_ ?_))
    · simp
    rintro i ⟨hi, hno⟩
    by_cases hlt : i < l.length
    · have hx : l[i]? = some l[i] := get_lt hlt
      generalize l[i] = x at hx
      by_cases e : x = s
      · subst e
        have hm : x ∈ l := List.mem_of_getElem? hx
        have hf := firstEq_found hno hx
        (conv => whnf); repeat' ((first | intro g | refine Wit.mk _ (map_getE hx rfl rfl) ?_ | refine st ?_ | (first | refine b1 ?_ ?_ | refine b2 ?_ ?_ | refine Br.mk ?_ ?_) <;> intro hc | exact rfl) <;> conv => whnf)
        all_goals rw [idxS, hf]
      · have e' : ¬ s = x := fun h => e h.symm
        (conv => whnf); repeat' ((first | intro g | refine Wit.mk _ (map_getE hx rfl rfl) ?_ | refine st ?_ | (first | refine b1 ?_ ?_ | refine b2 ?_ ?_ | refine Br.mk ?_ ?_) <;> intro hc | exact rfl) <;> conv => whnf)
        refine NxtS.mk (i+1) (by first | omega | (dsimp only; omega)) ?_ (by (refine ⟨?_, ?_⟩ <;> repeat' (first | exact True.intro | refine ai ?_ | refine And.intro ?_ ?_)))
        refine ⟨by omega, fun j y hj hy => ?_⟩
        by_cases e2 : j = i
        · subst e2
          rw [hx] at hy
          injection hy with hy; subst hy; exact e
        · exact hno j y (by omega) hy
    · have hall : ∀ (j : Nat) (y : Str), l[j]? = some y → y ≠ s := fun j y hy => hno j y (by have := (List.getElem?_eq_some_iff.1 hy).1; omega) hy
      have hm : ¬ s ∈ l := fun h => by
        obtain ⟨j, hj⟩ := List.mem_iff_getElem?.1 h
        exact hall j s hj rfl
      have hf := firstEq_none hall
      (conv => whnf); repeat' ((first | intro g | refine st ?_ | (first | refine b1 ?_ ?_ | refine b2 ?_ ?_ | refine Br.mk ?_ ?_) <;> intro hc | exact rfl) <;> conv => whnf)
      rw [idxS, hf]
  · have : l = [] := by simpa using h0
    subst this
    refine Ev.of_s' E_393 (X_393 _) rfl ?_
    (conv => whnf); repeat' ((first | intro g | refine st ?_ | (first | refine b1 ?_ ?_ | refine b2 ?_ ?_ | refine Br.mk ?_ ?_) <;> intro hc | exact rfl) <;> conv => whnf)
    refine LoopS.by (fun i : Nat => ⟨[(0, .nils), (1, .str s), (7, vnat 0), (8, vnat i)], []⟩) (fun i => i = 0) (fun i => 0) 0 ?_ rfl ?_
    · (refine ⟨?_, ?_⟩ <;> repeat' (first | exact True.intro | refine ai ?_ | refine And.intro ?_ ?_))
    rintro i rfl
    (conv => whnf); repeat' ((first | intro g | refine st ?_ | (first | refine b1 ?_ ?_ | refine b2 ?_ ?_ | refine Br.mk ?_ ?_) <;> intro hc | exact rfl) <;> conv => whnf)
theorem cont_ev {l : List Str} {sv : V} (hs : IsS 1 (l.map V.str) sv) (s : Str) (hlen : l.length < 4611686018427387904) : Ev E 349 [sv, .str s] ⟨hasS s l, []⟩ := by
  have h := sidx_ev hs s hlen
  have hpus := strs_pure l
  have hf : decide (s ∈ l) = decide (0 ≤ firstIdx (fun x => decide (x = s)) l) := by
    rw [← any_firstIdx]
    rw [Bool.eq_iff_iff]
    simp
  rw [hasS, hf]
  rw [idxS] at h
  rcases hs with rfl | ⟨h0, rfl⟩
  all_goals
    refine Ev.of_s' E_349 (X_349 _) rfl ?_
    (conv => whnf); repeat' ((first | intro g | refine CallS.mk _ (h) ?_ | refine st ?_ | (first | refine b1 ?_ ?_ | refine b2 ?_ ?_ | refine Br.mk ?_ ?_) <;> intro hc | exact rfl) <;> conv => whnf)
end Go.AM
set_option maxRecDepth 20000
namespace Go.AM
theorem rint_ev (n : Int) : Ev E 335 [vi n] ⟨(Va.mk 1 n false []).v, []⟩ := by
  refine Ev.of_s' E_335 (X_335 _) rfl ?_
  (conv => whnf); repeat' ((first | intro g | refine st ?_ | (first | refine b1 ?_ ?_ | refine b2 ?_ ?_ | refine Br.mk ?_ ?_) <;> intro hc | exact rfl) <;> conv => whnf)
theorem rbool_ev (b : Bool) : Ev E 369 [.bool b] ⟨(Va.mk 2 0 b []).v, []⟩ := by
  refine Ev.of_s' E_369 (X_369 _) rfl ?_
  (conv => whnf); repeat' ((first | intro g | refine st ?_ | (first | refine b1 ?_ ?_ | refine b2 ?_ ?_ | refine Br.mk ?_ ?_) <;> intro hc | exact rfl) <;> conv => whnf)
theorem rstr_ev (s : Str) : Ev E 336 [.str s] ⟨(Va.mk 3 0 false s).v, []⟩ := by
  refine Ev.of_s' E_336 (X_336 _) rfl ?_
  (conv => whnf); repeat' ((first | intro g | refine st ?_ | (first | refine b1 ?_ ?_ | refine b2 ?_ ?_ | refine Br.mk ?_ ?_) <;> intro hc | exact rfl) <;> conv => whnf)
end Go.AM
set_option maxRecDepth 20000
namespace Go.AM
theorem rsize_ev : ∀ (k : Nat) (e : Ex), e.size ≤ k → k < 1000000 → Ev E 382 [e.v] ⟨vnat e.size, []⟩
  | 0, e, h, _ => by have := e.size_pos; omega
  | k + 1, .mk op var val nl l, h, hk => by
    have hsz : Ex.sizes l ≤ k := by simp only [Ex.size] at h; omega
    have ih : ∀ x ∈ l, Ev E 382 [x.v] ⟨vnat x.size, []⟩ := fun x hx => rsize_ev k x (Nat.le_trans (Ex.size_mem hx) hsz) (by omega)
    have hlen := Ex.length_le l
    rw [Ex.v_eq]
    simp only [Ex.size]
    refine Ev.of_s' E_382 (X_382 _) rfl ?_
    cases l with
    | nil =>
      cases nl <;> simp only [List.map_nil, lv, cond_true, cond_false, Ex.sizes]
      all_goals
        (conv => whnf); repeat' ((first | intro g | refine st ?_ | (first | refine b1 ?_ ?_ | refine b2 ?_ ?_ | refine Br.mk ?_ ?_) <;> intro hc | exact rfl) <;> conv => whnf)
        refine LoopS.by (fun (i : Nat) => ⟨[(1, .ptr 32 g 0 0), (3, vnat 1), (4, vnat 0)], [(32, ⟨g, 7, false, false, some [_]⟩)]⟩) (fun i => i = 0) (fun _ => 0) 0 (by (refine ⟨?_, ?_⟩ <;> repeat' (first | exact True.intro | refine ai ?_ | refine And.intro ?_ ?_))) rfl ?_
        rintro i rfl
        (conv => whnf); repeat' ((first | intro g | refine st ?_ | (first | refine b1 ?_ ?_ | refine b2 ?_ ?_ | refine Br.mk ?_ ?_) <;> intro hc | exact rfl) <;> conv => whnf)
    | cons y ys =>
      have e1 : lv nl ((y :: ys).map Ex.v) = .lit 7 ((y :: ys).map Ex.v) := rfl
      rw [e1]
      generalize hl : y :: ys = l at *
      clear hl
      (conv => whnf); repeat' ((first | intro g | refine st ?_ | (first | refine b1 ?_ ?_ | refine b2 ?_ ?_ | refine Br.mk ?_ ?_) <;> intro hc | exact rfl) <;> conv => whnf)
      refine LoopS.by (fun (i : Nat) => ⟨[(1, .ptr 32 g 0 0), (3, vnat (1 + Ex.sizes (l.take i))), (4, vnat i)], [(32, ⟨g, 7, false, false, some [.agg [vi op, vi var, vi val.t, vi val.n, .bool val.b, .str val.s, .lit 7 (l.map Ex.v)]]⟩)]⟩)
        (fun i => i ≤ l.length) (fun i => l.length - i) 0 (by (refine ⟨?_, ?_⟩ <;> repeat' (first | exact True.intro | refine ai ?_ | refine And.intro ?_ ?_))) (by simp) ?_
      intro i hi
      by_cases hlt : i < l.length
      · obtain ⟨x, hx⟩ : ∃ x, l[i]? = some x := ⟨_, get_lt hlt⟩
        have hxe := ih x (List.mem_of_getElem? hx)
        have h1 := Ex.sizes_take hx
        have h2 := Ex.sizes_take_le l (i + 1)
        obtain ⟨a, b, c, d, e', f, L, hv, hL⟩ := x.form
        rw [hv] at hxe
        rcases hL with rfl | ⟨zs, rfl⟩
        all_goals
          (conv => whnf); repeat' ((first | intro g | refine Wit.mk _ (map_getE hx hv rfl) ?_ | refine CallS.mk _ (hxe) ?_ | refine st ?_ | (first | refine b1 ?_ ?_ | refine b2 ?_ ?_ | refine Br.mk ?_ ?_) <;> intro hc | exact rfl) <;> conv => whnf)
          exact NxtS.mk (i + 1) (by first | omega | (dsimp only; omega)) (by first | omega | (dsimp only; omega)) (by (refine ⟨?_, ?_⟩ <;> repeat' (first | exact True.intro | refine ai ?_ | refine And.intro ?_ ?_)))
      · have hi' : i = l.length := by omega
        subst hi'
        have h1 : l.take l.length = l := List.take_length
        rw [h1]
        (conv => whnf); repeat' ((first | intro g | refine st ?_ | (first | refine b1 ?_ ?_ | refine b2 ?_ ?_ | refine Br.mk ?_ ?_) <;> intro hc | exact rfl) <;> conv => whnf)
theorem psize_ev : ∀ (k : Nat) (e : Ex), e.size ≤ k → k < 1000000 → Ev E 370 [e.v] ⟨vnat e.size, []⟩
  | 0, e, h, _ => by have := e.size_pos; omega
  | k + 1, .mk op var val nl l, h, hk => by
    have hsz : Ex.sizes l ≤ k := by simp only [Ex.size] at h; omega
    have ih : ∀ x ∈ l, Ev E 370 [x.v] ⟨vnat x.size, []⟩ := fun x hx => psize_ev k x (Nat.le_trans (Ex.size_mem hx) hsz) (by omega)
    have hlen := Ex.length_le l
    rw [Ex.v_eq]
    simp only [Ex.size]
    refine Ev.of_s' E_370 (X_370 _) rfl ?_
    cases l with
    | nil =>
      cases nl <;> simp only [List.map_nil, lv, cond_true, cond_false, Ex.sizes]
      all_goals
        (conv => whnf); repeat' ((first | intro g | refine st ?_ | (first | refine b1 ?_ ?_ | refine b2 ?_ ?_ | refine Br.mk ?_ ?_) <;> intro hc | exact rfl) <;> conv => whnf)
        refine LoopS.by (fun (i : Nat) => ⟨[(3, vnat 1), (8, vnat 0), (9, vnat 0)], []⟩) (fun i => i = 0) (fun _ => 0) 0 (by (refine ⟨?_, ?_⟩ <;> repeat' (first | exact True.intro | refine ai ?_ | refine And.intro ?_ ?_))) rfl ?_
        rintro i rfl
        (conv => whnf); repeat' ((first | intro g | refine st ?_ | (first | refine b1 ?_ ?_ | refine b2 ?_ ?_ | refine Br.mk ?_ ?_) <;> intro hc | exact rfl) <;> conv => whnf)
    | cons y ys =>
      have e1 : lv nl ((y :: ys).map Ex.v) = .lit 7 ((y :: ys).map Ex.v) := rfl
      rw [e1]
      generalize hl : y :: ys = l at *
      clear hl
      (conv => whnf); repeat' ((first | intro g | refine st ?_ | (first | refine b1 ?_ ?_ | refine b2 ?_ ?_ | refine Br.mk ?_ ?_) <;> intro hc | exact rfl) <;> conv => whnf)
      refine LoopS.by (fun (i : Nat) => ⟨[(3, vnat (1 + Ex.sizes (l.take i))), (7, .lit 7 (l.map Ex.v)), (8, vnat (l.map Ex.v).length), (9, vnat i)], []⟩)
        (fun i => i ≤ l.length) (fun i => l.length - i) 0 (by (refine ⟨?_, ?_⟩ <;> repeat' (first | exact True.intro | refine ai ?_ | refine And.intro ?_ ?_))) (by simp) ?_
      intro i hi
      by_cases hlt : i < l.length
      · obtain ⟨x, hx⟩ : ∃ x, l[i]? = some x := ⟨_, get_lt hlt⟩
        have hxe := ih x (List.mem_of_getElem? hx)
        have h1 := Ex.sizes_take hx
        have h2 := Ex.sizes_take_le l (i + 1)
        obtain ⟨a, b, c, d, e', f, L, hv, hL⟩ := x.form
        rw [hv] at hxe
        rcases hL with rfl | ⟨zs, rfl⟩
        all_goals
          (conv => whnf); repeat' ((first | intro g | refine Wit.mk _ (map_getE hx hv rfl) ?_ | refine CallS.mk _ (hxe) ?_ | refine st ?_ | (first | refine b1 ?_ ?_ | refine b2 ?_ ?_ | refine Br.mk ?_ ?_) <;> intro hc | exact rfl) <;> conv => whnf)
          exact NxtS.mk (i + 1) (by first | omega | (dsimp only; omega)) (by first | omega | (dsimp only; omega)) (by (refine ⟨?_, ?_⟩ <;> repeat' (first | exact True.intro | refine ai ?_ | refine And.intro ?_ ?_)))
      · have hi' : i = l.length := by omega
        subst hi'
        have h1 : l.take l.length = l := List.take_length
        rw [h1]
        (conv => whnf); repeat' ((first | intro g | refine st ?_ | (first | refine b1 ?_ ?_ | refine b2 ?_ ?_ | refine Br.mk ?_ ?_) <;> intro hc | exact rfl) <;> conv => whnf)
end Go.AM
set_option maxRecDepth 20000
namespace Go.AM
def modI (a n : Int) : Int := (w64 (a.tmod n + n)).tmod n
theorem modI_bd {a : Int} {n : Nat} (h : 0 < n) (h2 : n < 1000000000000000) : 0 ≤ modI a n ∧ modI a n < n := by
  unfold modI
  have h1 := Int.tmod_lt_of_pos a (show (0 : Int) < n by omega)
  have h3 := Int.lt_tmod_of_pos a (show (0 : Int) < n by omega)
  rw [w64_id (by omega) (by omega)]
  have h4 := Int.tmod_nonneg (b := (n : Int)) (a := a.tmod n + n) (by omega)
  have h5 := Int.tmod_lt_of_pos (a.tmod n + n) (show (0 : Int) < n by omega)
  exact ⟨h4, h5⟩
theorem mod_ev {a n : Int} (h : n ≠ 0) : Ev E 93 [vi a, vi n] ⟨vi (modI a n), []⟩ := by
  refine Ev.of_s' E_93 (X_93 _) rfl ?_
  (conv => whnf); repeat' ((first | intro g | refine st ?_ | (refine Wit.strS ?_; intro s) | (first | refine b1 ?_ ?_ | refine b2 ?_ ?_ | refine Br.mk ?_ ?_) <;> intro hc | exact rfl) <;> conv => whnf)
def drawV (l : List Int) (a : Nat) : V := .agg [.lit 1 (l.map vi), vnat a]
def nextR (l : List Int) (a n : Nat) : Nat := match l[a]? with
  | some x => (modI x n).toNat
  | none => 0
def nextA (l : List Int) (a : Nat) : Nat := if a < l.length then a + 1 else a
theorem nextR_lt {l : List Int} {a n : Nat} (h : 0 < n) (h2 : n < 1000000000000000) : nextR l a n < n := by
  unfold nextR
  split
  · rename_i x _
    have := modI_bd (a := x) h h2
    omega
  · exact h
theorem next_ev {l : List Int} (hl : l.length < 9223372036854775808) (n : Nat) {a : Nat} (h : 0 < n) (h2 : n < 1000000000000000) : Ev E 85 [.mptr 2 [drawV l a] 0 0, vnat n] ⟨vnat (nextR l a n), [(0, [drawV l (nextA l a)])]⟩ := by
  refine Ev.of_s' E_85 (X_85 _) rfl ?_
  by_cases hlt : a < l.length
  · obtain ⟨x, hx⟩ : ∃ x, l[a]? = some x := ⟨_, get_lt hlt⟩
    have hm := mod_ev (a := x) (n := (n : Int)) (by omega)
    have hw : IntKind.i64.wrap (IntKind.i64.wrap ((a : Int) + 1) - 1) = (a : Int) := by
      rw [wrap64 (n := (a : Int) + 1) (by omega) (by omega)]
      exact (wrap64 (by omega) (by omega)).trans (by omega)
    have hb := modI_bd (a := x) h h2
    have e1 : nextR l a n = (modI x n).toNat := by simp [nextR, hx]
    have e2 : nextA l a = a + 1 := by simp [nextA, hlt]
    rw [e1, e2]
    have e3 : IntKind.i64.wrap ((a : Int) + 1) = ((a + 1 : Nat) : Int) := (wrap64 (by omega) (by omega)).trans (by omega)
    have e4 : vnat (modI x n).toNat = vi (modI x n) := by show V.int _ _ = V.int _ _; congr 1; omega
    rw [e4]
    (conv => whnf); repeat' ((first | intro g | refine Wit.mk _ (map_get hx hw) ?_ | refine CallS.mk _ (hm) ?_ | refine st ?_ | (refine Wit.strS ?_; intro s) | (first | refine b1 ?_ ?_ | refine b2 ?_ ?_ | refine Br.mk ?_ ?_) <;> intro hc | exact rfl) <;> conv => whnf)
    show (⟨vi _, [(0, [V.agg [_, V.int .i64 _]])]⟩ : Res) = _
    rw [e3]; rfl
  · have e1 : nextR l a n = 0 := by simp [nextR, show l[a]? = none from by simp; omega]
    have e2 : nextA l a = a := by simp [nextA, hlt]
    rw [e1, e2]
    (conv => whnf); repeat' ((first | intro g | refine st ?_ | (refine Wit.strS ?_; intro s) | (first | refine b1 ?_ ?_ | refine b2 ?_ ?_ | refine Br.mk ?_ ?_) <;> intro hc | exact rfl) <;> conv => whnf)
theorem nextR_ilt {l : List Int} {a n : Nat} (h : 0 < n) (h2 : n < 1000000000000000) : ((nextR l a n : Nat) : Int) < (n : Int) := by
  have := nextR_lt (l := l) (a := a) h h2
  omega
theorem Wit.str {L : List V} {n : Nat} {q : V → Prop} (h : ∀ x ∈ L, ∃ s, x = .str s) (hn : n < L.length) (k : ∀ s, q (.str s)) : Wit (fun e => L[n]? = some e) q := by
  obtain ⟨s, hs⟩ := h L[n] (List.getElem_mem hn)
  refine ⟨_, List.getElem?_eq_getElem hn, ?_⟩
  rw [hs]; exact k s
theorem Wit.strS {L : List V} {n : Nat} {q : V → Prop} (k : ∀ s, q (.str s)) (h : ∀ x ∈ L, ∃ s, x = .str s := by simp) (hn : n < L.length := by first | exact Nat.lt_of_lt_of_le (nextR_lt (by decide) (by decide)) (by decide) | fail) : Wit (fun e => L[n]? = some e) q :=
  Wit.str h hn k
end Go.AM
