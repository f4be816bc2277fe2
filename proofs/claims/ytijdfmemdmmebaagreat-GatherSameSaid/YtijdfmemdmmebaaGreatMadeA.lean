/-
  Texts of the proof, joined by program: SMadeA, SMadeB, SMadeC, SMadeD, SMadeE, SMadeF, SMadeG, SMadeH. Own work.
-/
import Derived.Test.YtijdfmemdmmebaaGreatData
set_option linter.unusedSimpArgs false
set_option linter.unusedVariables false
set_option maxRecDepth 20000
namespace Go.AM

def modI (a n : Int) : Int := (w64 (a.tmod n + n)).tmod n
theorem modI_bd {a : Int} {n : Nat} (h : 0 < n) (h2 : n < 1000000000000000) : 0 ≤ modI a n ∧ modI a n < n := by
  unfold modI
  have h1 := Int.tmod_lt_of_pos a (show (0 : Int) < n by omega)
  have h3 := Int.lt_tmod_of_pos a (show (0 : Int) < n by omega)
  rw [w64_id (by omega) (by omega)]
  have h4 := Int.tmod_nonneg (b := (n : Int)) (a := a.tmod n + n) (by omega)
  have h5 := Int.tmod_lt_of_pos (a.tmod n + n) (show (0 : Int) < n by omega)
  exact ⟨h4, h5⟩
theorem mod_ev {a n : Int} (h : n ≠ 0) : Ev E 93 [vi a, vi n] ⟨vi (modI a n), []⟩ := by
  refine Ev.of_s' E_93 (X_93 _) rfl ?_
  (conv => whnf); repeat' ((first | intro g | refine st ?_ | (refine Wit.strS ?_; intro s) | (first | refine b1 ?_ ?_ | refine b2 ?_ ?_ | refine Br.mk ?_ ?_) <;> intro hc | exact rfl) <;> conv => whnf)

def drawV (l : List Int) (a : Nat) : V := .agg [.lit 1 (l.map vi), vnat a]
/-- the next number -/
def nextR (l : List Int) (a n : Nat) : Nat := match l[a]? with
  | some x => (modI x n).toNat
  | none => 0
def nextA (l : List Int) (a : Nat) : Nat := if a < l.length then a + 1 else a
theorem nextR_lt {l : List Int} {a n : Nat} (h : 0 < n) (h2 : n < 1000000000000000) : nextR l a n < n := by
  unfold nextR
  split
  · rename_i x _
    have := modI_bd (a := x) h h2
    omega
  · exact h
theorem next_ev {l : List Int} (hl : l.length < 9223372036854775808) (n : Nat) {a : Nat} (h : 0 < n) (h2 : n < 1000000000000000) : Ev E 85 [.mptr 2 [drawV l a] 0 0, vnat n] ⟨vnat (nextR l a n), [(0, [drawV l (nextA l a)])]⟩ := by
  refine Ev.of_s' E_85 (X_85 _) rfl ?_
  by_cases hlt : a < l.length
  · obtain ⟨x, hx⟩ : ∃ x, l[a]? = some x := ⟨_, get_lt hlt⟩
    have hm := mod_ev (a := x) (n := (n : Int)) (by omega)
    have hw : IntKind.i64.wrap (IntKind.i64.wrap ((a : Int) + 1) - 1) = (a : Int) := by
      rw [wrap64 (n := (a : Int) + 1) (by omega) (by omega)]
      exact (wrap64 (by omega) (by omega)).trans (by omega)
    have hb := modI_bd (a := x) h h2
    have e1 : nextR l a n = (modI x n).toNat := by simp [nextR, hx]
    have e2 : nextA l a = a + 1 := by simp [nextA, hlt]
    rw [e1, e2]
    have e3 : IntKind.i64.wrap ((a : Int) + 1) = ((a + 1 : Nat) : Int) := (wrap64 (by omega) (by omega)).trans (by omega)
    have e4 : vnat (modI x n).toNat = vi (modI x n) := by show V.int _ _ = V.int _ _; congr 1; omega
    rw [e4]
    (conv => whnf); repeat' ((first | intro g | refine Wit.mk _ (map_get hx hw) ?_ | refine CallS.mk _ (hm) ?_ | refine st ?_ | (refine Wit.strS ?_; intro s) | (first | refine b1 ?_ ?_ | refine b2 ?_ ?_ | refine Br.mk ?_ ?_) <;> intro hc | exact rfl) <;> conv => whnf)
    show (⟨vi _, [(0, [V.agg [_, V.int .i64 _]])]⟩ : Res) = _
    rw [e3]; rfl
  · have e1 : nextR l a n = 0 := by simp [nextR, show l[a]? = none from by simp; omega]
    have e2 : nextA l a = a := by simp [nextA, hlt]
    rw [e1, e2]
    (conv => whnf); repeat' ((first | intro g | refine st ?_ | (refine Wit.strS ?_; intro s) | (first | refine b1 ?_ ?_ | refine b2 ?_ ?_ | refine Br.mk ?_ ?_) <;> intro hc | exact rfl) <;> conv => whnf)

theorem nextR_ilt {l : List Int} {a n : Nat} (h : 0 < n) (h2 : n < 1000000000000000) : ((nextR l a n : Nat) : Int) < (n : Int) := by
  have := nextR_lt (l := l) (a := a) h h2
  omega

/-- an element of a list of texts -/
theorem Wit.str {L : List V} {n : Nat} {q : V → Prop} (h : ∀ x ∈ L, ∃ s, x = .str s) (hn : n < L.length) (k : ∀ s, q (.str s)) : Wit (fun e => L[n]? = some e) q := by
  obtain ⟨s, hs⟩ := h L[n] (List.getElem_mem hn)
  refine ⟨_, List.getElem?_eq_getElem hn, ?_⟩
  rw [hs]; exact k s
theorem Wit.strS {L : List V} {n : Nat} {q : V → Prop} (k : ∀ s, q (.str s)) (h : ∀ x ∈ L, ∃ s, x = .str s := by simp) (hn : n < L.length := by first | exact Nat.lt_of_lt_of_le (nextR_lt (by decide) (by decide)) (by decide) | fail) : Wit (fun e => L[n]? = some e) q :=
  Wit.str h hn k
end Go.AM

set_option maxRecDepth 20000
namespace Go.AM

theorem rsub2_ev (a b : Pt) : Ev E 161 [a.v, b.v] ⟨(Pt.mk (w64 (a.x - b.x)) (w64 (a.y - b.y))).v, []⟩ := by
  refine Ev.of_s' E_161 (X_161 _) rfl ?_
  (conv => whnf); repeat' ((first | intro g | refine st ?_ | (refine Wit.strS ?_; intro s) | (first | refine b1 ?_ ?_ | refine b2 ?_ ?_ | refine Br.mk ?_ ?_) <;> intro hc | exact rfl) <;> conv => whnf)

theorem node_ev {l : List Int} (hl : l.length < 9223372036854775808) {i j : Nat} (hi : i < 10) (hj : j < 10) : ∃ p : Pt, Ev E 115 [.lit 1 (l.map vi), vnat i, vnat j] ⟨p.v, []⟩ := by
  have key := Ev.of_s (R := fun r => ∃ p : Pt, r = ⟨p.v, []⟩) E_115 (X_115 [.lit 1 (l.map vi), vnat i, vnat j]) rfl ?_
  · obtain ⟨res, h1, p, rfl⟩ := key
    exact ⟨p, h1⟩
  have w0 : IntKind.i64.wrap (4 * (j : Int)) = ((4 * j : Nat) : Int) := (wrap64 (by omega) (by omega)).trans (by omega)
  have w1 : IntKind.i64.wrap (IntKind.i64.wrap (4 * (j : Int)) + (i : Int)) = ((4 * j + i : Nat) : Int) := by rw [w0]; exact (wrap64 (by omega) (by omega)).trans (by omega)
  have w2 : IntKind.i64.wrap (2 * IntKind.i64.wrap (IntKind.i64.wrap (4 * (j : Int)) + (i : Int))) = ((2 * (4 * j + i) : Nat) : Int) := by rw [w1]; exact (wrap64 (by omega) (by omega)).trans (by omega)
  have w3 : IntKind.i64.wrap (IntKind.i64.wrap (2 * IntKind.i64.wrap (IntKind.i64.wrap (4 * (j : Int)) + (i : Int))) + 1) = ((2 * (4 * j + i) + 1 : Nat) : Int) := by rw [w2]; exact (wrap64 (by omega) (by omega)).trans (by omega)
  by_cases hlt : 2 * (4 * j + i) + 1 < l.length
  · have hx := get_lt (l := l) (i := 2 * (4 * j + i)) (by omega)
    have hy := get_lt (l := l) (i := 2 * (4 * j + i) + 1) (by omega)
    (conv => whnf); repeat' ((first | intro g | refine Wit.mk _ (map_get hx w2) ?_ | refine Wit.mk _ (map_get hy w3) ?_ | refine CallS.mk _ (mod_ev (by decide)) ?_ | refine st ?_ | (refine Wit.strS ?_; intro s) | (first | refine b1 ?_ ?_ | refine b2 ?_ ?_ | refine Br.mk ?_ ?_) <;> intro hc | exact rfl) <;> conv => whnf)
    all_goals exact ⟨⟨_, _⟩, rfl⟩
  · (conv => whnf); repeat' ((first | intro g | refine st ?_ | (refine Wit.strS ?_; intro s) | (first | refine b1 ?_ ?_ | refine b2 ?_ ?_ | refine Br.mk ?_ ?_) <;> intro hc | exact rfl) <;> conv => whnf)
    all_goals exact ⟨⟨_, _⟩, rfl⟩

theorem wiggle_ev {l : List Int} (hl : l.length < 9223372036854775808) (p q : Pt) (a0 : Nat) : ∃ (ps : List Pt) (a : Nat), 2 ≤ ps.length ∧ ps.length ≤ 5 ∧ Ev E 114 [p.v, q.v, .mptr 2 [drawV l a0] 0 0] ⟨.own 2 (ps.map Pt.v), [(0, [drawV l a])]⟩ := by
  have key := Ev.of_s (R := fun r => ∃ (ps : List Pt) (a : Nat), 2 ≤ ps.length ∧ ps.length ≤ 5 ∧ r = ⟨.own 2 (ps.map Pt.v), [(0, [drawV l a])]⟩) E_114 (X_114 [p.v, q.v, .mptr 2 [drawV l a0] 0 0]) rfl ?_
  · obtain ⟨res, h1, ps, a, h2, h3, rfl⟩ := key
    exact ⟨ps, a, h2, h3, h1⟩
  have hn : ∀ n a, 0 < n → n < 1000 → Ev E 85 [.mptr 2 [drawV l a] 0 0, vnat n] ⟨vnat (nextR l a n), [(0, [drawV l (nextA l a)])]⟩ := fun n a h h2 => next_ev hl n h (by omega)
  have hb := nextR_lt (l := l) (a := a0) (n := 4) (by omega) (by omega)
  have hsub := rsub2_ev q p
  generalize hm : nextR l a0 4 = many at hb
  have n4 := hn 4 a0 (by omega) (by omega)
  rw [hm] at n4
  (conv => whnf); repeat' ((first | intro g | refine CallS.mk _ (n4) ?_ | refine CallS.mk _ (hsub) ?_ | refine st ?_ | (refine Wit.strS ?_; intro s) | (first | refine b1 ?_ ?_ | refine b2 ?_ ?_ | refine Br.mk ?_ ?_) <;> intro hc | exact rfl) <;> conv => whnf)
  rename_i g3 g4 _ g7
  generalize hu : Pt.mk (w64 (q.x - p.x)) (w64 (q.y - p.y)) = u
  refine LoopS.by (fun ((k, ps, a, g7) : Nat × List Pt × Nat × Nat) => ⟨[(2, .ptr 2 0 0 0), (3, .ptr 64 g3 0 0), (4, .ptr 80 g4 0 0), (7, .sl 129 g7 0 ps.length), (8, vnat many), (9, .ptr 160 g 0 0), (10, vnat (k + 1))],
      [(2, ⟨0, 2, false, false, some [drawV l a]⟩), (64, ⟨g3, 2, false, false, some [p.v]⟩), (80, ⟨g4, 2, false, false, some [q.v]⟩), (129, ⟨g7, 2, true, false, some (ps.map Pt.v)⟩), (160, ⟨g, 2, false, false, some [u.v]⟩)]⟩)
    (fun (k, ps, _, _) => k ≤ many ∧ ps.length = k + 1) (fun (k, _) => many - k) (0, [p], nextA l a0, g7) (by subst hu; (refine ⟨?_, ?_⟩ <;> repeat' (first | exact True.intro | refine ai ?_ | refine And.intro ?_ ?_))) ⟨by simp, by simp⟩ ?_
  rintro ⟨k, ps, a, g7⟩ ⟨hk, hps⟩
  try dsimp only at hk hps
  have n21 := hn 21 a (by omega) (by omega)
  have e1 : IntKind.i64.wrap ((many : Int) + 1) = ((many + 1 : Nat) : Int) := (wrap64 (by omega) (by omega)).trans (by omega)
  have e2 : (many : Int).tdiv 2 = ((many / 2 : Nat) : Int) := rfl
  have e3 : IntKind.i64.wrap ((many : Int).tdiv 2) = ((many / 2 : Nat) : Int) := by rw [e2]; exact (wrap64 (by omega) (by omega)).trans (by omega)
  have e4 : IntKind.i64.wrap (1 + IntKind.i64.wrap ((many : Int).tdiv 2)) = ((1 + many / 2 : Nat) : Int) := by rw [e3]; exact (wrap64 (by omega) (by omega)).trans (by omega)
  (conv => whnf); repeat' ((first | intro g | refine CallS.mk _ (n21) ?_ | refine st ?_ | (refine Wit.strS ?_; intro s) | (first | refine b1 ?_ ?_ | refine b2 ?_ ?_ | refine Br.mk ?_ ?_) <;> intro hc | exact rfl) <;> conv => whnf)
  · refine NxtS.mk (k + 1, ps ++ [⟨?x, ?y⟩], ?a, ?g) ?h1 ?h2 ?h3
    case h3 => (refine ⟨?_, ?_⟩ <;> repeat' (first | exact True.intro | refine ai ?_ | refine And.intro ?_ ?_))
    case h1 => (first | omega | (dsimp only; omega))
    case h2 => exact ⟨by omega, by simp; omega⟩
  · refine NxtS.mk (k + 1, ps ++ [⟨?x2, ?y2⟩], ?a2, ?g2) ?k1 ?k2 ?k3
    case k3 => (refine ⟨?_, ?_⟩ <;> repeat' (first | exact True.intro | refine ai ?_ | refine And.intro ?_ ?_))
    case k1 => (first | omega | (dsimp only; omega))
    case k2 => exact ⟨by omega, by simp; omega⟩
  · exact ⟨ps ++ [q], a, by simp; omega, by simp; omega, by simp⟩
end Go.AM

set_option maxRecDepth 20000
namespace Go.AM

set_option maxHeartbeats 1000000 in
theorem turned_ev (e : Edge) (h0 : e.line ≠ []) (hl : e.line.length < 1000000) : ∃ e' : Edge, e'.line.length = e.line.length ∧ Ev E 131 [e.v] ⟨.agg [vi e'.id, .own 2 (e'.line.map Pt.v), vi e'.left, vi e'.right], []⟩ := by
  have key := Ev.of_s (R := fun r => ∃ e' : Edge, e'.line.length = e.line.length ∧ r = ⟨.agg [vi e'.id, .own 2 (e'.line.map Pt.v), vi e'.left, vi e'.right], []⟩) E_131 (X_131 [e.v]) rfl ?_
  · obtain ⟨res, h1, e', h2, rfl⟩ := key
    exact ⟨e', h2, h1⟩
  have hp : 0 < e.line.length := List.length_pos_iff.2 h0
  have e1 : IntKind.i64.wrap ((e.line.length : Int) - 1) = (e.line.length : Int) - 1 := wrap64 (by omega) (by omega)
  (conv => whnf); repeat' ((first | intro g | refine st ?_ | (refine Wit.strS ?_; intro s) | (first | refine b1 ?_ ?_ | refine b2 ?_ ?_ | refine Br.mk ?_ ?_) <;> intro hc | exact rfl) <;> conv => whnf)
  rename_i g1 g2
  refine LoopS.by (fun ((j, ps, og) : Nat × List Pt × Option Nat) => ⟨[(1, .ptr 32 g1 0 0), (2, .ptr 48 g2 0 0), (3, .ptr 64 g 0 0), (4, vi ((j : Int) - 1))],
      match og with
      | none => [(32, ⟨g1, 4, false, false, some [e.v]⟩), (48, ⟨g2, 4, false, false, some [.agg [vi 0, .lit 2 [], vi 0, vi 0]]⟩), (64, ⟨g, 4, false, false, some [.agg [vi e.id, .nils, vi e.right, vi e.left]]⟩)]
      | some g5 => [(32, ⟨g1, 4, false, false, some [e.v]⟩), (48, ⟨g2, 4, false, false, some [.agg [vi 0, .lit 2 [], vi 0, vi 0]]⟩), (64, ⟨g, 4, false, false, some [.agg [vi e.id, .sl 67 g5 0 ps.length, vi e.right, vi e.left]]⟩), (67, ⟨g5, 2, true, false, some (ps.map Pt.v)⟩)]⟩)
    (fun (j, ps, og) => j + ps.length = e.line.length ∧ (og = none → ps = [])) (fun (j, _) => j) (e.line.length, [], none) ?_ ⟨by simp, by simp⟩ ?_
  · (refine ⟨?_, ?_⟩ <;> repeat' (first | exact True.intro | refine ai ?_ | refine And.intro ?_ ?_))
  rintro ⟨j, ps, og⟩ ⟨hj, hog⟩
  try dsimp only at hj hog
  cases j with
  | zero =>
    cases og with
    | none => have := hog rfl; subst this; simp at hj; omega
    | some g5 =>
      (conv => whnf); repeat' ((first | intro g | refine st ?_ | (refine Wit.strS ?_; intro s) | (first | refine b1 ?_ ?_ | refine b2 ?_ ?_ | refine Br.mk ?_ ?_) <;> intro hc | exact rfl) <;> conv => whnf)
      exact ⟨⟨e.id, ps, e.right, e.left⟩, by simpa using hj, rfl⟩
  | succ j =>
    obtain ⟨x, hx⟩ : ∃ x, e.line[j]? = some x := ⟨_, get_lt (by omega)⟩
    have hjw : ((j + 1 : Nat) : Int) - 1 = (j : Int) := by omega
    cases og with
    | none =>
      have := hog rfl
      subst this
      (conv => whnf); repeat' ((first | intro g | refine Wit.mk _ (map_get hx hjw) ?_ | refine st ?_ | (refine Wit.strS ?_; intro s) | (first | refine b1 ?_ ?_ | refine b2 ?_ ?_ | refine Br.mk ?_ ?_) <;> intro hc | exact rfl) <;> conv => whnf)
      refine NxtS.mk (j, [x], some g) (by first | omega | (dsimp only; omega)) ⟨by simp at hj ⊢; omega, by simp⟩ (by (refine ⟨?_, ?_⟩ <;> repeat' (first | exact True.intro | refine ai ?_ | refine And.intro ?_ ?_)))
    | some g5 =>
      (conv => whnf); repeat' ((first | intro g | refine Wit.mk _ (map_get hx hjw) ?_ | refine st ?_ | (refine Wit.strS ?_; intro s) | (first | refine b1 ?_ ?_ | refine b2 ?_ ?_ | refine Br.mk ?_ ?_) <;> intro hc | exact rfl) <;> conv => whnf)
      refine NxtS.mk (j, ps ++ [x], some g) (by first | omega | (dsimp only; omega)) ⟨by simp at hj ⊢; omega, by simp⟩ (by (refine ⟨?_, ?_⟩ <;> repeat' (first | exact True.intro | refine ai ?_ | refine And.intro ?_ ?_)))

def LineFit (ps : List Pt) : Prop := 2 ≤ ps.length ∧ ps.length ≤ 5
def EFit (es : List Edge) (n : Nat) : Prop := es.length ≤ n ∧ ∀ e ∈ es, LineFit e.line
theorem EFit.snoc {es : List Edge} {n : Nat} {e : Edge} (h : EFit es n) (k : LineFit e.line) : EFit (es ++ [e]) (n + 1) :=
  ⟨by have := h.1; simp; omega, fun x hx => by
    rcases List.mem_append.1 hx with hx | hx
    · exact h.2 x hx
    · have : x = e := by simpa using hx
      subst this; exact k⟩
theorem EFit.mono {es : List Edge} {n m : Nat} (h : EFit es n) (k : n ≤ m) : EFit es m := ⟨Nat.le_trans h.1 k, h.2⟩

set_option maxHeartbeats 1000000 in
theorem add_ev {l : List Int} (hl : l.length < 9223372036854775808) {es : List Edge} {n : Nat} (he : EFit es n) (hn : n < 1000) {ps : List Pt} (hps : LineFit ps) (left right : Int) (a0 : Nat) :
    ∃ (es' : List Edge) (a b : Nat), EFit es' (n + 1) ∧ Ev E 113 [.msl 4 (es.map Edge.v) 0 es.length, ptsV ps, vi left, vi right, .mptr 2 [drawV l a0] 0 0] ⟨.sl 0 b 0 es'.length, [(b, es'.map Edge.v), (0, [drawV l a])]⟩ := by
  have key := Ev.of_s (R := fun r => ∃ (es' : List Edge) (a b : Nat), EFit es' (n + 1) ∧ r = ⟨.sl 0 b 0 es'.length, [(b, es'.map Edge.v), (0, [drawV l a])]⟩) E_113 (X_113 [.msl 4 (es.map Edge.v) 0 es.length, ptsV ps, vi left, vi right, .mptr 2 [drawV l a0] 0 0]) rfl ?_
  · obtain ⟨res, h1, es', a, b, h2, rfl⟩ := key
    exact ⟨es', a, b, h2, h1⟩
  have hel := he.1
  have n2 := next_ev hl 2 (a := a0) (by omega) (by omega)
  have hidw : IntKind.i64.wrap ((es.length : Int) + 1) = (es.length : Int) + 1 := wrap64 (by omega) (by omega)
  obtain ⟨e', ht1, ht2⟩ := turned_ev ⟨IntKind.i64.wrap ((es.length : Int) + 1), ps, left, right⟩ (by intro h; dsimp only at h; subst h; have := hps.1; simp at this) (by dsimp only; have := hps.2; omega)
  (conv => whnf); repeat' ((first | intro g | refine CallS.mk _ (n2) ?_ | refine CallS.mk _ (ht2) ?_ | refine st ?_ | (refine Wit.strS ?_; intro s) | (first | refine b1 ?_ ?_ | refine b2 ?_ ?_ | refine Br.mk ?_ ?_) <;> intro hc | exact rfl) <;> conv => whnf)
  · exact ⟨es, a0, 0, he.mono (by omega), rfl⟩
  · refine ⟨es ++ [e'], nextA l a0, g, he.snoc ?_, ?_⟩
    · unfold LineFit at *; dsimp only at ht1; omega
    · simp only [List.map_append, List.map_cons, List.map_nil, List.length_append, List.length_cons, List.length_nil, List.length_map]; rfl
  · refine ⟨es ++ [⟨IntKind.i64.wrap ((es.length : Int) + 1), ps, left, right⟩], nextA l a0, g, he.snoc hps, ?_⟩
    simp only [List.map_append, List.map_cons, List.map_nil, List.length_append, List.length_cons, List.length_nil, List.length_map]; rfl
end Go.AM

set_option maxRecDepth 20000
namespace Go.AM

theorem cell_ev {cs : List Int} (hcs : cs.length = 6) {w h : Nat} (hw : w ≤ 3) (hh : h ≤ 2) (i j : Int) : ∃ r : Int, Ev E 116 [.agg (cs.map vi), vnat w, vnat h, vi i, vi j] ⟨vi r, []⟩ := by
  have key := Ev.of_s (R := fun r => ∃ x : Int, r = ⟨vi x, []⟩) E_116 (X_116 [.agg (cs.map vi), vnat w, vnat h, vi i, vi j]) rfl ?_
  · obtain ⟨res, h1, x, rfl⟩ := key
    exact ⟨x, h1⟩
  match cs, hcs with
  | [x0, x1, x2, x3, x4, x5], _ =>
    by_cases hin : 0 ≤ i ∧ 0 ≤ j ∧ i < w ∧ j < h
    · rcases (by omega : i = 0 ∨ i = 1 ∨ i = 2) with rfl | rfl | rfl <;> rcases (by omega : j = 0 ∨ j = 1) with rfl | rfl
      all_goals
        (conv => whnf); repeat' ((first | intro g | refine st ?_ | (refine Wit.strS ?_; intro s) | (first | refine b1 ?_ ?_ | refine b2 ?_ ?_ | refine Br.mk ?_ ?_) <;> intro hc | exact rfl) <;> conv => whnf)
        all_goals exact ⟨_, rfl⟩
    · (conv => whnf); repeat' ((first | intro g | refine st ?_ | (refine Wit.strS ?_; intro s) | (first | refine b1 ?_ ?_ | refine b2 ?_ ?_ | refine Br.mk ?_ ?_) <;> intro hc | exact rfl) <;> conv => whnf)
      all_goals first | exact ⟨_, rfl⟩ | (exfalso; omega)

theorem map_single (n : Int) : [vi n] = List.map vi [n] := rfl
theorem put_fin {k : Nat} {n : Int} (A B : List Int) (h : A.length + B.length ≤ k) : ∃ l' : List Int, l'.length ≤ k + 1 ∧
    ((⟨V.own 1 ([] ++ A.map vi ++ [vi n] ++ B.map vi), []⟩ : Res) = ⟨.lit 1 (l'.map vi), []⟩ ∨ (⟨V.own 1 ([] ++ A.map vi ++ [vi n] ++ B.map vi), []⟩ : Res) = ⟨.own 1 (l'.map vi), []⟩) :=
  ⟨A ++ [n] ++ B, by simp; omega, .inr (by simp)⟩
theorem put_ev {l : List Int} (hl : l.length < 1000000) (n : Int) : ∃ l' : List Int, l'.length ≤ l.length + 1 ∧ (Ev E 162 [.lit 1 (l.map vi), vi n] ⟨.lit 1 (l'.map vi), []⟩ ∨ Ev E 162 [.lit 1 (l.map vi), vi n] ⟨.own 1 (l'.map vi), []⟩) := by
  have key := Ev.of_s (R := fun r => ∃ l' : List Int, l'.length ≤ l.length + 1 ∧ (r = ⟨.lit 1 (l'.map vi), []⟩ ∨ r = ⟨.own 1 (l'.map vi), []⟩)) E_162 (X_162 [.lit 1 (l.map vi), vi n]) rfl ?_
  · obtain ⟨res, h1, l', h2, rfl | rfl⟩ := key
    · exact ⟨l', h2, .inl h1⟩
    · exact ⟨l', h2, .inr h1⟩
  (conv => whnf); repeat' ((first | intro g | refine st ?_ | (refine Wit.strS ?_; intro s) | (first | refine b1 ?_ ?_ | refine b2 ?_ ?_ | refine Br.mk ?_ ?_) <;> intro hc | exact rfl) <;> conv => whnf)
  refine LoopS.by (fun (j : Nat) => ⟨[(0, .lit 1 (l.map vi)), (1, vi n), (5, vnat j)], []⟩) (fun j => j ≤ l.length) (fun j => j) l.length ?_ (Nat.le_refl _) ?_
  · (refine ⟨?_, ?_⟩ <;> repeat' (first | exact True.intro | refine ai ?_ | refine And.intro ?_ ?_))
  intro j hj
  by_cases hlt : j < l.length
  · obtain ⟨x, hx⟩ : ∃ x, l[j]? = some x := ⟨_, get_lt hlt⟩
    cases j with
    | zero =>
      (conv => whnf); repeat' ((first | intro g | refine Wit.mk _ (map_get hx rfl) ?_ | refine Wit.mk _ (window_map _ _ _ _) ?_ | refine st ?_ | (refine Wit.strS ?_; intro s) | (first | refine b1 ?_ ?_ | refine b2 ?_ ?_ | refine Br.mk ?_ ?_) <;> intro hc | exact rfl) <;> conv => whnf)
      all_goals first
        | exact ⟨l, by omega, .inl rfl⟩
        | exact NxtS.mk j (by first | omega | (dsimp only; omega)) (by omega) (by (refine ⟨?_, ?_⟩ <;> repeat' (first | exact True.intro | refine ai ?_ | refine And.intro ?_ ?_)))
        | exact put_fin _ _ (by simp only [List.length_take, List.length_drop, List.length_map]; omega)
        | trace_state
    | succ j =>
      obtain ⟨y, hy⟩ : ∃ y, l[j]? = some y := ⟨_, get_lt (by omega)⟩
      have hjw : IntKind.i64.wrap (((j + 1 : Nat) : Int) - 1) = (j : Int) := (wrap64 (by omega) (by omega)).trans (by omega)
      (conv => whnf); repeat' ((first | intro g | refine Wit.mk _ (map_get hx rfl) ?_ | refine Wit.mk _ (map_get hy hjw) ?_ | refine Wit.mk _ (window_map _ _ _ _) ?_ | refine st ?_ | (refine Wit.strS ?_; intro s) | (first | refine b1 ?_ ?_ | refine b2 ?_ ?_ | refine Br.mk ?_ ?_) <;> intro hc | exact rfl) <;> conv => whnf)
      all_goals first
        | exact ⟨l, by omega, .inl rfl⟩
        | exact NxtS.mk j (by first | omega | (dsimp only; omega)) (by omega) (by (refine ⟨?_, ?_⟩ <;> repeat' (first | exact True.intro | refine ai ?_ | refine And.intro ?_ ?_)))
        | exact put_fin _ _ (by simp only [List.length_take, List.length_drop, List.length_map]; omega)
        | trace_state
  · cases j with
    | zero =>
      (conv => whnf); repeat' ((first | intro g | refine Wit.mk _ (window_map _ _ _ _) ?_ | refine st ?_ | (refine Wit.strS ?_; intro s) | (first | refine b1 ?_ ?_ | refine b2 ?_ ?_ | refine Br.mk ?_ ?_) <;> intro hc | exact rfl) <;> conv => whnf)
      all_goals first
        | exact ⟨l, by omega, .inl rfl⟩
        | exact NxtS.mk j (by first | omega | (dsimp only; omega)) (by omega) (by (refine ⟨?_, ?_⟩ <;> repeat' (first | exact True.intro | refine ai ?_ | refine And.intro ?_ ?_)))
        | exact put_fin _ _ (by simp only [List.length_take, List.length_drop, List.length_map]; omega)
        | trace_state
    | succ j =>
      obtain ⟨y, hy⟩ : ∃ y, l[j]? = some y := ⟨_, get_lt (by omega)⟩
      have hjw : IntKind.i64.wrap (((j + 1 : Nat) : Int) - 1) = (j : Int) := (wrap64 (by omega) (by omega)).trans (by omega)
      (conv => whnf); repeat' ((first | intro g | refine Wit.mk _ (map_get hy hjw) ?_ | refine Wit.mk _ (window_map _ _ _ _) ?_ | refine st ?_ | (refine Wit.strS ?_; intro s) | (first | refine b1 ?_ ?_ | refine b2 ?_ ?_ | refine Br.mk ?_ ?_) <;> intro hc | exact rfl) <;> conv => whnf)
      all_goals first
        | exact ⟨l, by omega, .inl rfl⟩
        | exact NxtS.mk j (by first | omega | (dsimp only; omega)) (by omega) (by (refine ⟨?_, ?_⟩ <;> repeat' (first | exact True.intro | refine ai ?_ | refine And.intro ?_ ?_)))
        | exact put_fin _ _ (by simp only [List.length_take, List.length_drop, List.length_map]; omega)
        | trace_state
end Go.AM

set_option maxRecDepth 20000
namespace Go.AM

theorem CallS.ex {E : Env} {f : Nat} {as : List V} {q P : Res → Prop} (h : ∃ res, Ev E f as res ∧ P res) (k : ∀ res, P res → q res) : CallS E f as q := by
  obtain ⟨res, h1, h2⟩ := h
  exact ⟨res, h1, k res h2⟩

theorem add_ex {l : List Int} (hl : l.length < 9223372036854775808) {es : List Edge} {n : Nat} (he : EFit es n) (hn : n < 1000) {ps : List Pt} (hps : LineFit ps) (left right : Int) (a0 : Nat) :
    ∃ res, Ev E 113 [.msl 4 (es.map Edge.v) 0 es.length, ptsV ps, vi left, vi right, .mptr 2 [drawV l a0] 0 0] res ∧ ∃ (es' : List Edge) (a b : Nat), EFit es' (n + 1) ∧ res = ⟨.sl 0 b 0 es'.length, [(b, es'.map Edge.v), (0, [drawV l a])]⟩ := by
  obtain ⟨es', a, b, h1, h2⟩ := add_ev hl he hn hps left right a0
  exact ⟨_, h2, es', a, b, h1, rfl⟩
theorem put_ex {l : List Int} (hl : l.length < 1000000) (n : Int) : ∃ res, Ev E 162 [.lit 1 (l.map vi), vi n] res ∧ ∃ l' : List Int, l'.length ≤ l.length + 1 ∧ (res = ⟨.lit 1 (l'.map vi), []⟩ ∨ res = ⟨.own 1 (l'.map vi), []⟩) := by
  obtain ⟨l', h1, h2 | h2⟩ := put_ev hl n
  · exact ⟨_, h2, l', h1, .inl rfl⟩
  · exact ⟨_, h2, l', h1, .inr rfl⟩

set_option maxHeartbeats 1000000 in
theorem island_ex {l : List Int} (hl : l.length < 9223372036854775808) {es : List Edge} {n : Nat} (he : EFit es n) (hn : n < 1000) (c : Pt) (around : Int) (a0 : Nat) :
    ∃ res, Ev E 117 [.msl 4 (es.map Edge.v) 0 es.length, c.v, vi around, .mptr 2 [drawV l a0] 0 0] res ∧ ∃ (es' : List Edge) (a b : Nat), EFit es' (n + 1) ∧ res = ⟨.sl 0 b 0 es'.length, [(b, es'.map Edge.v), (0, [drawV l a])]⟩ := by
  refine Ev.of_s E_117 (X_117 _) rfl ?_
  have n8 := fun a => next_ev hl 8 (a := a) (by omega) (by omega)
  have n2 := fun a => next_ev hl 2 (a := a) (by omega) (by omega)
  have f4 : ∀ a b c d : Pt, LineFit [a, b, c, d] := fun a b c d => ⟨by simp, by simp⟩
  have f5 : ∀ a b c d e : Pt, LineFit [a, b, c, d, e] := fun a b c d e => ⟨by simp, by simp⟩
  have hel := he.1
  (conv => whnf); repeat' ((first | intro g | refine Wit.mk _ (win_self rfl) ?_ | refine CallS.mk _ (n8 _) ?_ | refine CallS.mk _ (n2 _) ?_ | refine st ?_ | (refine Wit.strS ?_; intro s) | (first | refine b1 ?_ ?_ | refine b2 ?_ ?_ | refine Br.mk ?_ ?_) <;> intro hc | exact rfl) <;> conv => whnf)
  · have hadd : ∀ x1 y1 x2 y2 x3 y3 x4 y4 x5 y5 le ri a, ∃ res, Ev E 113 [.msl 4 (es.map Edge.v) 0 es.length, .lit 2 [.agg [vi x1, vi y1], .agg [vi x2, vi y2], .agg [vi x3, vi y3], .agg [vi x4, vi y4], .agg [vi x5, vi y5]], vi le, vi ri, .mptr 2 [drawV l a] 0 0] res ∧ ∃ (es' : List Edge) (a b : Nat), EFit es' (n + 1) ∧ res = ⟨.sl 0 b 0 es'.length, [(b, es'.map Edge.v), (0, [drawV l a])]⟩ :=
      fun x1 y1 x2 y2 x3 y3 x4 y4 x5 y5 le ri a => add_ex hl he hn (f5 ⟨x1, y1⟩ ⟨x2, y2⟩ ⟨x3, y3⟩ ⟨x4, y4⟩ ⟨x5, y5⟩) le ri a
    refine CallS.ex (hadd _ _ _ _ _ _ _ _ _ _ _ _ _) ?_
    rintro _ ⟨es', a, b, h1, rfl⟩
    (conv => whnf); repeat' ((first | intro g | refine st ?_ | (refine Wit.strS ?_; intro s) | (first | refine b1 ?_ ?_ | refine b2 ?_ ?_ | refine Br.mk ?_ ?_) <;> intro hc | exact rfl) <;> conv => whnf)
    exact ⟨es', a, _, h1, rfl⟩
  · have hadd : ∀ x1 y1 x2 y2 x3 y3 x4 y4 le ri a, ∃ res, Ev E 113 [.msl 4 (es.map Edge.v) 0 es.length, .lit 2 [.agg [vi x1, vi y1], .agg [vi x2, vi y2], .agg [vi x3, vi y3], .agg [vi x4, vi y4]], vi le, vi ri, .mptr 2 [drawV l a] 0 0] res ∧ ∃ (es' : List Edge) (a b : Nat), EFit es' (n + 1) ∧ res = ⟨.sl 0 b 0 es'.length, [(b, es'.map Edge.v), (0, [drawV l a])]⟩ :=
      fun x1 y1 x2 y2 x3 y3 x4 y4 le ri a => add_ex hl he hn (f4 ⟨x1, y1⟩ ⟨x2, y2⟩ ⟨x3, y3⟩ ⟨x4, y4⟩) le ri a
    refine CallS.ex (hadd _ _ _ _ _ _ _ _ _ _ _) ?_
    rintro _ ⟨es', a, b, h1, rfl⟩
    (conv => whnf); repeat' ((first | intro g | refine st ?_ | (refine Wit.strS ?_; intro s) | (first | refine b1 ?_ ?_ | refine b2 ?_ ?_ | refine Br.mk ?_ ?_) <;> intro hc | exact rfl) <;> conv => whnf)
    exact ⟨es', a, _, h1, rfl⟩

set_option maxHeartbeats 1000000 in
theorem faces_ex {es : List Edge} (he : es.length < 10000) : ∃ res, Ev E 118 [.lit 4 (es.map Edge.v)] res ∧ ∃ fs : List Face, fs.length ≤ 2 * es.length ∧ res = ⟨.own 5 (fs.map Face.v), []⟩ := by
  refine Ev.of_s E_118 (X_118 _) rfl ?_
  (conv => whnf); repeat' ((first | intro g | refine st ?_ | (refine Wit.strS ?_; intro s) | (first | refine b1 ?_ ?_ | refine b2 ?_ ?_ | refine Br.mk ?_ ?_) <;> intro hc | exact rfl) <;> conv => whnf)
  refine LoopS.by (fun ((k, ids) : Nat × List Int) => ⟨[(0, .lit 4 (es.map Edge.v)), (3, .lit 1 (ids.map vi)), (4, vnat k)], []⟩) (fun (k, ids) => k ≤ es.length ∧ ids.length ≤ 2 * k) (fun (k, _) => es.length - k) (0, []) (by (refine ⟨?_, ?_⟩ <;> repeat' (first | exact True.intro | refine ai ?_ | refine And.intro ?_ ?_))) ⟨by simp, by simp⟩ ?_
  rintro ⟨k, ids⟩ ⟨hk, hi⟩
  try dsimp only at hk hi
  by_cases hlt : k < es.length
  · obtain ⟨e, he'⟩ : ∃ e, es[k]? = some e := ⟨_, get_lt hlt⟩
    by_cases h1 : e.left = 0 <;> by_cases h2 : e.right = 0
    · (conv => whnf); repeat' ((first | intro g | refine Wit.mk _ (map_get he' rfl) ?_ | refine st ?_ | (refine Wit.strS ?_; intro s) | (first | refine b1 ?_ ?_ | refine b2 ?_ ?_ | refine Br.mk ?_ ?_) <;> intro hc | exact rfl) <;> conv => whnf)
      exact NxtS.mk (k + 1, ids) (by first | omega | (dsimp only; omega)) ⟨(by first | omega | (dsimp only; omega)), (by first | omega | (dsimp only; omega))⟩ (by (refine ⟨?_, ?_⟩ <;> repeat' (first | exact True.intro | refine ai ?_ | refine And.intro ?_ ?_)))
    · (conv => whnf); repeat' ((first | intro g | refine Wit.mk _ (map_get he' rfl) ?_ | refine st ?_ | (refine Wit.strS ?_; intro s) | (first | refine b1 ?_ ?_ | refine b2 ?_ ?_ | refine Br.mk ?_ ?_) <;> intro hc | exact rfl) <;> conv => whnf)
      refine CallS.ex (put_ex (by omega) _) ?_
      rintro _ ⟨l', hl', rfl | rfl⟩
      all_goals
        (conv => whnf); repeat' ((first | intro g | refine Wit.mk _ (map_get he' rfl) ?_ | refine st ?_ | (refine Wit.strS ?_; intro s) | (first | refine b1 ?_ ?_ | refine b2 ?_ ?_ | refine Br.mk ?_ ?_) <;> intro hc | exact rfl) <;> conv => whnf)
        exact NxtS.mk (k + 1, l') (by first | omega | (dsimp only; omega)) ⟨(by first | omega | (dsimp only; omega)), (by first | omega | (dsimp only; omega))⟩ (by (refine ⟨?_, ?_⟩ <;> repeat' (first | exact True.intro | refine ai ?_ | refine And.intro ?_ ?_)))
    · (conv => whnf); repeat' ((first | intro g | refine Wit.mk _ (map_get he' rfl) ?_ | refine st ?_ | (refine Wit.strS ?_; intro s) | (first | refine b1 ?_ ?_ | refine b2 ?_ ?_ | refine Br.mk ?_ ?_) <;> intro hc | exact rfl) <;> conv => whnf)
      refine CallS.ex (put_ex (by omega) _) ?_
      rintro _ ⟨l', hl', rfl | rfl⟩
      all_goals
        (conv => whnf); repeat' ((first | intro g | refine Wit.mk _ (map_get he' rfl) ?_ | refine st ?_ | (refine Wit.strS ?_; intro s) | (first | refine b1 ?_ ?_ | refine b2 ?_ ?_ | refine Br.mk ?_ ?_) <;> intro hc | exact rfl) <;> conv => whnf)
        exact NxtS.mk (k + 1, l') (by first | omega | (dsimp only; omega)) ⟨(by first | omega | (dsimp only; omega)), (by first | omega | (dsimp only; omega))⟩ (by (refine ⟨?_, ?_⟩ <;> repeat' (first | exact True.intro | refine ai ?_ | refine And.intro ?_ ?_)))
    · (conv => whnf); repeat' ((first | intro g | refine Wit.mk _ (map_get he' rfl) ?_ | refine st ?_ | (refine Wit.strS ?_; intro s) | (first | refine b1 ?_ ?_ | refine b2 ?_ ?_ | refine Br.mk ?_ ?_) <;> intro hc | exact rfl) <;> conv => whnf)
      refine CallS.ex (put_ex (by omega) _) ?_
      rintro _ ⟨l', hl', rfl | rfl⟩
      all_goals
        (conv => whnf); repeat' ((first | intro g | refine Wit.mk _ (map_get he' rfl) ?_ | refine st ?_ | (refine Wit.strS ?_; intro s) | (first | refine b1 ?_ ?_ | refine b2 ?_ ?_ | refine Br.mk ?_ ?_) <;> intro hc | exact rfl) <;> conv => whnf)
        refine CallS.ex (put_ex (by omega) _) ?_
        rintro _ ⟨l2, hl2, rfl | rfl⟩
        all_goals
          (conv => whnf); repeat' ((first | intro g | refine Wit.mk _ (map_get he' rfl) ?_ | refine st ?_ | (refine Wit.strS ?_; intro s) | (first | refine b1 ?_ ?_ | refine b2 ?_ ?_ | refine Br.mk ?_ ?_) <;> intro hc | exact rfl) <;> conv => whnf)
          exact NxtS.mk (k + 1, l2) (by first | omega | (dsimp only; omega)) ⟨(by first | omega | (dsimp only; omega)), (by first | omega | (dsimp only; omega))⟩ (by (refine ⟨?_, ?_⟩ <;> repeat' (first | exact True.intro | refine ai ?_ | refine And.intro ?_ ?_)))
  obtain rfl : k = es.length := by omega
  (conv => whnf); repeat' ((first | intro g | refine st ?_ | (refine Wit.strS ?_; intro s) | (first | refine b1 ?_ ?_ | refine b2 ?_ ?_ | refine Br.mk ?_ ?_) <;> intro hc | exact rfl) <;> conv => whnf)
  refine LoopS.by (fun ((j, fs, g) : Nat × List Face × Nat) => ⟨[(3, .lit 1 (ids.map vi)), (5, .sl 97 g 0 fs.length), (6, vnat j)], [(97, ⟨g, 5, true, false, some (fs.map Face.v)⟩)]⟩) (fun (j, fs, _) => j ≤ ids.length ∧ fs.length = j) (fun (j, _) => ids.length - j) (0, [], g) (by (refine ⟨?_, ?_⟩ <;> repeat' (first | exact True.intro | refine ai ?_ | refine And.intro ?_ ?_))) ⟨by simp, by simp⟩ ?_
  rintro ⟨j, fs, g⟩ ⟨hj, hf⟩
  try dsimp only at hj hf
  by_cases hlt : j < ids.length
  · obtain ⟨x, hx⟩ : ∃ x, ids[j]? = some x := ⟨_, get_lt hlt⟩
    (conv => whnf); repeat' ((first | intro g | refine Wit.mk _ (map_get hx rfl) ?_ | refine st ?_ | (refine Wit.strS ?_; intro s) | (first | refine b1 ?_ ?_ | refine b2 ?_ ?_ | refine Br.mk ?_ ?_) <;> intro hc | exact rfl) <;> conv => whnf)
    exact NxtS.mk (j + 1, fs ++ [⟨x, [], [], 0, 0⟩], g) (by first | omega | (dsimp only; omega)) ⟨(by first | omega | (dsimp only; omega)), by simp; omega⟩ (by (refine ⟨?_, ?_⟩ <;> repeat' (first | exact True.intro | refine ai ?_ | refine And.intro ?_ ?_)))
  · (conv => whnf); repeat' ((first | intro g | refine st ?_ | (refine Wit.strS ?_; intro s) | (first | refine b1 ?_ ?_ | refine b2 ?_ ?_ | refine Br.mk ?_ ?_) <;> intro hc | exact rfl) <;> conv => whnf)
    exact ⟨fs, by omega, rfl⟩
end Go.AM

set_option maxRecDepth 20000
namespace Go.AM

def tailOf : ACode → Nat → ACode
  | .seq _ b, n + 1 => tailOf b n
  | c, _ => c

def intsV (l : List Int) : V := .lit 1 (l.map vi)
def listsV (ls : List (List Int)) : V := .lit 1 (ls.map intsV)

set_option maxHeartbeats 4000000 in
theorem madeA {first second third : List Int} (hl : first.length < 9223372036854775808) {w h : Nat} (hw : w ≤ 3) (hh : h ≤ 2) (S : SS) (gd go a0 : Nat) (cs0 : List Int) (h6 : cs0.length = 6)
    (hS : SS.Sub ⟨[(5, intsV second), (6, intsV third), (7, .ptr 672 gd 0 0), (8, vnat w), (9, vnat h), (10, .ptr 176 go 0 0), (11, vnat 0)], [(672, ⟨gd, 2, false, false, some [drawV first a0]⟩), (176, ⟨go, 6, false, false, some [.agg (cs0.map vi)]⟩)]⟩ S)
    (Q : AExit → SS → Prop)
    (hQ : ∀ (a : Nat) (cs : List Int), cs.length = 6 → Q (.exit 0) ⟨[(5, intsV second), (6, intsV third), (7, .ptr 672 gd 0 0), (8, vnat w), (9, vnat h), (10, .ptr 176 go 0 0)], [(672, ⟨gd, 2, false, false, some [drawV first a]⟩), (176, ⟨go, 6, false, false, some [.agg (cs.map vi)]⟩)]⟩) :
    LoopS E f83_l1 S Q := by
  have n5 := fun a => next_ev hl 5 (a := a) (by omega) (by omega)
  refine LoopS.weak ?_
  refine LoopS.by (fun ((i, cs, a) : Nat × List Int × Nat) => ⟨[(5, intsV second), (6, intsV third), (7, .ptr 672 gd 0 0), (8, vnat w), (9, vnat h), (10, .ptr 176 go 0 0), (11, vnat i)], [(672, ⟨gd, 2, false, false, some [drawV first a]⟩), (176, ⟨go, 6, false, false, some [.agg (cs.map vi)]⟩)]⟩)
    (fun (i, cs, _) => i ≤ w ∧ cs.length = 6) (fun (i, _) => w - i) (0, cs0, a0) hS ⟨by simp, h6⟩ ?_
  rintro ⟨i, cs, a⟩ ⟨hi, hcs⟩
  try dsimp only at hi hcs
  by_cases hlt : i < w
  · (conv => whnf); repeat' ((first | intro g | refine st ?_ | (refine Wit.strS ?_; intro s) | (first | refine b1 ?_ ?_ | refine b2 ?_ ?_ | refine Br.mk ?_ ?_) <;> intro hc | exact rfl) <;> conv => whnf)
    refine LoopS.by (fun ((j, cs, a) : Nat × List Int × Nat) => ⟨[(5, intsV second), (6, intsV third), (7, .ptr 672 gd 0 0), (8, vnat w), (9, vnat h), (10, .ptr 176 go 0 0), (11, vnat i), (12, vnat j)], [(672, ⟨gd, 2, false, false, some [drawV first a]⟩), (176, ⟨go, 6, false, false, some [.agg (cs.map vi)]⟩)]⟩)
      (fun (j, cs, _) => j ≤ h ∧ cs.length = 6) (fun (j, _) => h - j) (0, cs, a) (by (refine ⟨?_, ?_⟩ <;> repeat' (first | exact True.intro | refine ai ?_ | refine And.intro ?_ ?_))) ⟨by simp, hcs⟩ ?_
    rintro ⟨j, cs, a⟩ ⟨hj, hcs⟩
    try dsimp only at hj hcs
    by_cases hltj : j < h
    · match cs, hcs with
      | [x0, x1, x2, x3, x4, x5], _ =>
        rcases (by omega : i = 0 ∨ i = 1 ∨ i = 2) with rfl | rfl | rfl <;> rcases (by omega : j = 0 ∨ j = 1) with rfl | rfl
        all_goals
          (conv => whnf); repeat' ((first | intro g | refine Need.mk (⟨by decide, by decide⟩) ?_ | refine CallS.mk _ (n5 _) ?_ | refine st ?_ | (refine Wit.strS ?_; intro s) | (first | refine b1 ?_ ?_ | refine b2 ?_ ?_ | refine Br.mk ?_ ?_) <;> intro hc | exact rfl) <;> conv => whnf)
          all_goals first
            | exact NxtS.mk (1, [_, _, _, _, _, _], _) (by first | omega | (dsimp only; omega)) ⟨(by first | omega | (dsimp only; omega)), rfl⟩ (by (refine ⟨?_, ?_⟩ <;> repeat' (first | exact True.intro | refine ai ?_ | refine And.intro ?_ ?_)))
            | exact NxtS.mk (2, [_, _, _, _, _, _], _) (by first | omega | (dsimp only; omega)) ⟨(by first | omega | (dsimp only; omega)), rfl⟩ (by (refine ⟨?_, ?_⟩ <;> repeat' (first | exact True.intro | refine ai ?_ | refine And.intro ?_ ?_)))
            | trace_state
    · (conv => whnf); repeat' ((first | intro g | refine st ?_ | (refine Wit.strS ?_; intro s) | (first | refine b1 ?_ ?_ | refine b2 ?_ ?_ | refine Br.mk ?_ ?_) <;> intro hc | exact rfl) <;> conv => whnf)
      exact NxtS.mk (i + 1, cs, a) (by first | omega | (dsimp only; omega)) ⟨(by first | omega | (dsimp only; omega)), hcs⟩ (by (refine ⟨?_, ?_⟩ <;> repeat' (first | exact True.intro | refine ai ?_ | refine And.intro ?_ ?_)))
  · (conv => whnf); repeat' ((first | intro g | refine st ?_ | (refine Wit.strS ?_; intro s) | (first | refine b1 ?_ ?_ | refine b2 ?_ ?_ | refine Br.mk ?_ ?_) <;> intro hc | exact rfl) <;> conv => whnf)
    refine ⟨_, ?_, hQ a cs hcs⟩
    (refine ⟨?_, ?_⟩ <;> repeat' (first | exact True.intro | refine ai ?_ | refine And.intro ?_ ?_))
end Go.AM

set_option maxRecDepth 20000
namespace Go.AM

/-- what stands over both loops of edges -/
abbrev ShE (second third : List Int) (gd w h go ge : Nat) (x0 x1 x2 x3 x4 x5 : Int) (first : List Int) (ad ae : Nat) (es : List Edge) (g7 : Nat) (more : List (Nat × V)) : SS :=
  ⟨more ++ [(5, intsV second), (7, .ptr 672 gd 0 0), (8, vnat w), (9, vnat h), (10, .ptr 176 go 0 0), (13, .ptr 1712 ge 0 0), (14, .sl 241 g7 0 es.length)],
    [(672, ⟨gd, 2, false, false, some [drawV first ad]⟩), (176, ⟨go, 6, false, false, some [.agg [vi x0, vi x1, vi x2, vi x3, vi x4, vi x5]]⟩), (1712, ⟨ge, 2, false, false, some [drawV third ae]⟩), (241, ⟨g7, 4, true, false, some (es.map Edge.v)⟩)]⟩

section
variable {second third first : List Int} (h2 : second.length < 9223372036854775808) (h3 : third.length < 9223372036854775808) {w h : Nat} (hw : w ≤ 3) (hh : h ≤ 2) {gd go ge ad : Nat} {x0 x1 x2 x3 x4 x5 : Int}
include h2 h3 hw hh

set_option maxHeartbeats 4000000 in
theorem madeB (S : SS) (ae0 : Nat) (g0 : Nat) (hS : SS.Sub (ShE second third gd w h go ge x0 x1 x2 x3 x4 x5 first ad ae0 [] g0 [(15, vnat 0)]) S) (Q : AExit → SS → Prop)
    (hQ : ∀ (es : List Edge) (ae g7 : Nat), EFit es 9 → Q (.exit 4) (ShE second third gd w h go ge x0 x1 x2 x3 x4 x5 first ad ae es g7 [])) : LoopS E f83_l3 S Q := by
  refine LoopS.weak ?_
  refine LoopS.by (fun ((j, es, ae, g7) : Nat × List Edge × Nat × Nat) => ShE second third gd w h go ge x0 x1 x2 x3 x4 x5 first ad ae es g7 [(15, vnat j)])
    (fun (j, es, _, _) => j ≤ h + 1 ∧ EFit es (3 * j)) (fun (j, _) => h + 1 - j) (0, [], ae0, g0) hS ⟨by simp, ⟨by simp, by simp⟩⟩ ?_
  rintro ⟨j, es, ae, g7⟩ ⟨hj, he⟩
  try dsimp only at hj he
  by_cases hlt : j ≤ h
  · (conv => whnf); repeat' ((first | intro g | refine st ?_ | (refine Wit.strS ?_; intro s) | (first | refine b1 ?_ ?_ | refine b2 ?_ ?_ | refine Br.mk ?_ ?_) <;> intro hc | exact rfl) <;> conv => whnf)
    refine LoopS.by (fun ((i, es, ae, g7) : Nat × List Edge × Nat × Nat) => ShE second third gd w h go ge x0 x1 x2 x3 x4 x5 first ad ae es g7 [(15, vnat j), (16, vnat i)])
      (fun (i, es, _, _) => i ≤ w ∧ EFit es (3 * j + i)) (fun (i, _) => w - i) (0, es, ae, g7) (by (refine ⟨?_, ?_⟩ <;> repeat' (first | exact True.intro | refine ai ?_ | refine And.intro ?_ ?_))) ⟨by simp, he⟩ ?_
    rintro ⟨i, es, ae, g7⟩ ⟨hi, he⟩
    try dsimp only at hi he
    have hel := he.1
    by_cases hlti : i < w
    · have hiw : IntKind.i64.wrap ((i : Int) + 1) = ((i + 1 : Nat) : Int) := (wrap64 (by omega) (by omega)).trans (by omega)
      obtain ⟨p1, hp1⟩ := node_ev h2 (i := i) (j := j) (by omega) (by omega)
      obtain ⟨p2, hp2⟩ := node_ev h2 (i := i + 1) (j := j) (by omega) (by omega)
      have hp2' : Ev E 115 [.lit 1 (second.map vi), vi (IntKind.i64.wrap ((i : Int) + 1)), vnat j] ⟨p2.v, []⟩ := by rw [hiw]; exact hp2
      obtain ⟨ps, a1, l1, l2, hwig⟩ := wiggle_ev h3 p1 p2 ae
      obtain ⟨c1, hc1⟩ := cell_ev (cs := [x0, x1, x2, x3, x4, x5]) rfl hw hh (i : Int) (j : Int)
      obtain ⟨c2, hc2⟩ := cell_ev (cs := [x0, x1, x2, x3, x4, x5]) rfl hw hh (i : Int) (IntKind.i64.wrap ((j : Int) - 1))
      obtain ⟨es', a2, b, hfit, hadd⟩ := add_ev h3 he (by omega) (ps := ps) ⟨l1, l2⟩ c1 c2 a1
      (conv => whnf); repeat' ((first | intro g | refine CallS.mk _ (hp1) ?_ | refine CallS.mk _ (hp2') ?_ | refine CallS.mk _ (hwig) ?_ | refine CallS.mk _ (hc1) ?_ | refine CallS.mk _ (hc2) ?_ | refine CallS.mk _ (hadd) ?_ | refine st ?_ | (refine Wit.strS ?_; intro s) | (first | refine b1 ?_ ?_ | refine b2 ?_ ?_ | refine Br.mk ?_ ?_) <;> intro hc | exact rfl) <;> conv => whnf)
      exact NxtS.mk (i + 1, es', a2, _) (by first | omega | (dsimp only; omega)) ⟨(by first | omega | (dsimp only; omega)), hfit⟩ (by (refine ⟨?_, ?_⟩ <;> repeat' (first | exact True.intro | refine ai ?_ | refine And.intro ?_ ?_)))
    · obtain rfl : i = w := by omega
      (conv => whnf); repeat' ((first | intro g | refine st ?_ | (refine Wit.strS ?_; intro s) | (first | refine b1 ?_ ?_ | refine b2 ?_ ?_ | refine Br.mk ?_ ?_) <;> intro hc | exact rfl) <;> conv => whnf)
      exact NxtS.mk (j + 1, es, ae, g7) (by first | omega | (dsimp only; omega)) ⟨(by first | omega | (dsimp only; omega)), he.mono (by omega)⟩ (by (refine ⟨?_, ?_⟩ <;> repeat' (first | exact True.intro | refine ai ?_ | refine And.intro ?_ ?_)))
  · (conv => whnf); repeat' ((first | intro g | refine st ?_ | (refine Wit.strS ?_; intro s) | (first | refine b1 ?_ ?_ | refine b2 ?_ ?_ | refine Br.mk ?_ ?_) <;> intro hc | exact rfl) <;> conv => whnf)
    refine ⟨_, ?_, hQ es ae g7 (he.mono (by omega))⟩
    (refine ⟨?_, ?_⟩ <;> repeat' (first | exact True.intro | refine ai ?_ | refine And.intro ?_ ?_))

set_option maxHeartbeats 4000000 in
theorem madeC (S : SS) (es0 : List Edge) (he0 : EFit es0 9) (ae0 : Nat) (g0 : Nat) (hS : SS.Sub (ShE second third gd w h go ge x0 x1 x2 x3 x4 x5 first ad ae0 es0 g0 [(17, vnat 0)]) S) (Q : AExit → SS → Prop)
    (hQ : ∀ (es : List Edge) (ae g7 : Nat), EFit es 17 → Q (.exit 8) (ShE second third gd w h go ge x0 x1 x2 x3 x4 x5 first ad ae es g7 [])) : LoopS E f83_l5 S Q := by
  refine LoopS.weak ?_
  refine LoopS.by (fun ((j, es, ae, g7) : Nat × List Edge × Nat × Nat) => ShE second third gd w h go ge x0 x1 x2 x3 x4 x5 first ad ae es g7 [(17, vnat j)])
    (fun (j, es, _, _) => j ≤ h ∧ EFit es (9 + 4 * j)) (fun (j, _) => h - j) (0, es0, ae0, g0) hS ⟨by simp, he0⟩ ?_
  rintro ⟨j, es, ae, g7⟩ ⟨hj, he⟩
  try dsimp only at hj he
  by_cases hlt : j < h
  · (conv => whnf); repeat' ((first | intro g | refine st ?_ | (refine Wit.strS ?_; intro s) | (first | refine b1 ?_ ?_ | refine b2 ?_ ?_ | refine Br.mk ?_ ?_) <;> intro hc | exact rfl) <;> conv => whnf)
    refine LoopS.by (fun ((i, es, ae, g7) : Nat × List Edge × Nat × Nat) => ShE second third gd w h go ge x0 x1 x2 x3 x4 x5 first ad ae es g7 [(17, vnat j), (18, vnat i)])
      (fun (i, es, _, _) => i ≤ w + 1 ∧ EFit es (9 + 4 * j + i)) (fun (i, _) => w + 1 - i) (0, es, ae, g7) (by (refine ⟨?_, ?_⟩ <;> repeat' (first | exact True.intro | refine ai ?_ | refine And.intro ?_ ?_))) ⟨by simp, he⟩ ?_
    rintro ⟨i, es, ae, g7⟩ ⟨hi, he⟩
    try dsimp only at hi he
    have hel := he.1
    by_cases hlti : i ≤ w
    · have hjw : IntKind.i64.wrap ((j : Int) + 1) = ((j + 1 : Nat) : Int) := (wrap64 (by omega) (by omega)).trans (by omega)
      obtain ⟨p1, hp1⟩ := node_ev h2 (i := i) (j := j) (by omega) (by omega)
      obtain ⟨p2, hp2⟩ := node_ev h2 (i := i) (j := j + 1) (by omega) (by omega)
      have hp2' : Ev E 115 [.lit 1 (second.map vi), vnat i, vi (IntKind.i64.wrap ((j : Int) + 1))] ⟨p2.v, []⟩ := by rw [hjw]; exact hp2
      obtain ⟨ps, a1, l1, l2, hwig⟩ := wiggle_ev h3 p1 p2 ae
      obtain ⟨c1, hc1⟩ := cell_ev (cs := [x0, x1, x2, x3, x4, x5]) rfl hw hh (IntKind.i64.wrap ((i : Int) - 1)) (j : Int)
      obtain ⟨c2, hc2⟩ := cell_ev (cs := [x0, x1, x2, x3, x4, x5]) rfl hw hh (i : Int) (j : Int)
      obtain ⟨es', a2, b, hfit, hadd⟩ := add_ev h3 he (by omega) (ps := ps) ⟨l1, l2⟩ c1 c2 a1
      (conv => whnf); repeat' ((first | intro g | refine CallS.mk _ (hp1) ?_ | refine CallS.mk _ (hp2') ?_ | refine CallS.mk _ (hwig) ?_ | refine CallS.mk _ (hc1) ?_ | refine CallS.mk _ (hc2) ?_ | refine CallS.mk _ (hadd) ?_ | refine st ?_ | (refine Wit.strS ?_; intro s) | (first | refine b1 ?_ ?_ | refine b2 ?_ ?_ | refine Br.mk ?_ ?_) <;> intro hc | exact rfl) <;> conv => whnf)
      exact NxtS.mk (i + 1, es', a2, _) (by first | omega | (dsimp only; omega)) ⟨(by first | omega | (dsimp only; omega)), hfit⟩ (by (refine ⟨?_, ?_⟩ <;> repeat' (first | exact True.intro | refine ai ?_ | refine And.intro ?_ ?_)))
    · obtain rfl : i = w + 1 := by omega
      (conv => whnf); repeat' ((first | intro g | refine st ?_ | (refine Wit.strS ?_; intro s) | (first | refine b1 ?_ ?_ | refine b2 ?_ ?_ | refine Br.mk ?_ ?_) <;> intro hc | exact rfl) <;> conv => whnf)
      exact NxtS.mk (j + 1, es, ae, g7) (by first | omega | (dsimp only; omega)) ⟨(by first | omega | (dsimp only; omega)), he.mono (by omega)⟩ (by (refine ⟨?_, ?_⟩ <;> repeat' (first | exact True.intro | refine ai ?_ | refine And.intro ?_ ?_)))
  · (conv => whnf); repeat' ((first | intro g | refine st ?_ | (refine Wit.strS ?_; intro s) | (first | refine b1 ?_ ?_ | refine b2 ?_ ?_ | refine Br.mk ?_ ?_) <;> intro hc | exact rfl) <;> conv => whnf)
    refine ⟨_, ?_, hQ es ae g7 (he.mono (by omega))⟩
    (refine ⟨?_, ?_⟩ <;> repeat' (first | exact True.intro | refine ai ?_ | refine And.intro ?_ ?_))
end
end Go.AM

set_option maxRecDepth 20000
namespace Go.AM

def Short (ls : List (List Int)) : Prop := ls.length < 9223372036854775808 ∧ ∀ l ∈ ls, l.length < 9223372036854775808
theorem lists_get {ls : List (List Int)} {k : Nat} {l : List Int} (h : ls[k]? = some l) : (ls.map intsV)[((k : Nat) : Int).toNat]? = some (intsV l) := by simp [h]

def Made07R (r : Res) : Prop := ∃ (es : List Edge) (fs : List Face), EFit es 18 ∧ fs.length ≤ 36 ∧ r = ⟨.tuple [.lit 4 (es.map Edge.v), .own 5 (fs.map Face.v)], []⟩

set_option maxHeartbeats 4000000 in
theorem made07_loop (ls : List (List Int)) {first second third : List Int} (h1 : first.length < 9223372036854775808) (h2 : second.length < 9223372036854775808) (h3 : third.length < 9223372036854775808) {w h : Nat} (hw : w ≤ 3) (hh : h ≤ 2) (hw1 : 1 ≤ w) (hh1 : 1 ≤ h) (S : SS) (gd go a0 : Nat) (cs0 : List Int) (h6 : cs0.length = 6)
    (hS : SS.Sub ⟨[(5, intsV second), (6, intsV third), (7, .ptr 672 gd 0 0), (8, vnat w), (9, vnat h), (10, .ptr 176 go 0 0), (11, vnat 0)], [(672, ⟨gd, 2, false, false, some [drawV first a0]⟩), (176, ⟨go, 6, false, false, some [.agg (cs0.map vi)]⟩)]⟩ S) :
    LoopS E f83_l1 S (outS 0 (thenS (finS f83.results [listsV ls] Made07R) fun S' => wps E (tailOf f83_b 11) S' (finS f83.results [listsV ls] Made07R))) := by
  refine madeA h1 hw hh S gd go a0 cs0 h6 hS _ ?_
  intro a cs hcs
  match cs, hcs with
  | [x0, x1, x2, x3, x4, x5], _ =>
    (conv => whnf); repeat' ((first | intro g | refine st ?_ | (refine Wit.strS ?_; intro s) | (first | refine b1 ?_ ?_ | refine b2 ?_ ?_ | refine Br.mk ?_ ?_) <;> intro hc | exact rfl) <;> conv => whnf)
    rename_i ge
    refine madeB (gd := gd) (go := go) (ge := ge) (ad := a) (first := first) (x0 := x0) (x1 := x1) (x2 := x2) (x3 := x3) (x4 := x4) (x5 := x5) h2 h3 hw hh _ 0 g (by (refine ⟨?_, ?_⟩ <;> repeat' (first | exact True.intro | refine ai ?_ | refine And.intro ?_ ?_))) _ ?_
    intro es ae g7 he
    (conv => whnf); repeat' ((first | intro g | refine st ?_ | (refine Wit.strS ?_; intro s) | (first | refine b1 ?_ ?_ | refine b2 ?_ ?_ | refine Br.mk ?_ ?_) <;> intro hc | exact rfl) <;> conv => whnf)
    refine madeC (gd := gd) (go := go) (ge := ge) (ad := a) (first := first) (x0 := x0) (x1 := x1) (x2 := x2) (x3 := x3) (x4 := x4) (x5 := x5) h2 h3 hw hh _ es he ae g7 (by (refine ⟨?_, ?_⟩ <;> repeat' (first | exact True.intro | refine ai ?_ | refine And.intro ?_ ?_))) _ ?_
    clear he es ae g7
    intro es ae g7 he
    have hel := he.1
    have n2 := next_ev h1 2 (a := a) (by omega) (by omega)
    have nw := next_ev h1 w (a := nextA first a) (by omega) (by omega)
    have nh := next_ev h1 h (a := nextA first (nextA first a)) (by omega) (by omega)
    have bw := nextR_lt (l := first) (a := nextA first a) (n := w) (by omega) (by omega)
    have bh := nextR_lt (l := first) (a := nextA first (nextA first a)) (n := h) (by omega) (by omega)
    generalize nextR first (nextA first a) w = i at nw bw
    generalize nextR first (nextA first (nextA first a)) h = j at nh bh
    by_cases hn2 : nextR first a 2 = 1
    · rcases (by omega : i = 0 ∨ i = 1 ∨ i = 2) with rfl | rfl | rfl <;> rcases (by omega : j = 0 ∨ j = 1) with rfl | rfl
      all_goals
        (conv => whnf); repeat' ((first | intro g | refine CallS.mk _ (n2) ?_ | refine CallS.mk _ (nw) ?_ | refine CallS.mk _ (nh) ?_ | refine st ?_ | (refine Wit.strS ?_; intro s) | (first | refine b1 ?_ ?_ | refine b2 ?_ ?_ | refine Br.mk ?_ ?_) <;> intro hc | exact rfl) <;> conv => whnf)
        refine CallS.ex (island_ex h3 he (by omega) ⟨_, _⟩ _ _) ?_
        rintro _ ⟨es', ae', b, he', rfl⟩
        have hel' := he'.1
        (conv => whnf); repeat' ((first | intro g | refine st ?_ | (refine Wit.strS ?_; intro s) | (first | refine b1 ?_ ?_ | refine b2 ?_ ?_ | refine Br.mk ?_ ?_) <;> intro hc | exact rfl) <;> conv => whnf)
        refine CallS.ex (faces_ex (es := es') (by omega)) ?_
        rintro _ ⟨fs, hfs, rfl⟩
        (conv => whnf); repeat' ((first | intro g | refine st ?_ | (refine Wit.strS ?_; intro s) | (first | refine b1 ?_ ?_ | refine b2 ?_ ?_ | refine Br.mk ?_ ?_) <;> intro hc | exact rfl) <;> conv => whnf)
        exact ⟨es', fs, he', by omega, rfl⟩
    · (conv => whnf); repeat' ((first | intro g | refine CallS.mk _ (n2) ?_ | refine st ?_ | (refine Wit.strS ?_; intro s) | (first | refine b1 ?_ ?_ | refine b2 ?_ ?_ | refine Br.mk ?_ ?_) <;> intro hc | exact rfl) <;> conv => whnf)
      refine CallS.ex (faces_ex (es := es) (by omega)) ?_
      rintro _ ⟨fs, hfs, rfl⟩
      (conv => whnf); repeat' ((first | intro g | refine st ?_ | (refine Wit.strS ?_; intro s) | (first | refine b1 ?_ ?_ | refine b2 ?_ ?_ | refine Br.mk ?_ ?_) <;> intro hc | exact rfl) <;> conv => whnf)
      exact ⟨es, fs, he.mono (by omega), by omega, rfl⟩

set_option maxHeartbeats 4000000 in
theorem made07_ex {ls : List (List Int)} (hs : Short ls) : ∃ res, Ev E 83 [listsV ls] res ∧ Made07R res := by
  refine Ev.of_s E_83 (X_83 _) rfl ?_
  have hl := hs.1
  have key : ∀ k, k < ls.length → ∃ l, ls[k]? = some l ∧ l.length < 9223372036854775808 := fun k hk => ⟨_, get_lt hk, hs.2 _ (List.getElem_mem hk)⟩
  have gen : ∀ (first second third : List Int), first.length < 9223372036854775808 → second.length < 9223372036854775808 → third.length < 9223372036854775808 →
      (0 < ls.length → ls[0]? = some first) → (1 < ls.length → ls[1]? = some second) → (2 < ls.length → ls[2]? = some third) → (ls.length ≤ 0 → first = []) → (ls.length ≤ 1 → second = []) → (ls.length ≤ 2 → third = []) →
      wps E f83.body (enterS [listsV ls]) (finS f83.results [listsV ls] Made07R) := by
    intro first second third h1 h2 h3 k1 k2 k3 e1 e2 e3
    have n3 := next_ev h1 3 (a := 0) (by omega) (by omega)
    have n2 := next_ev h1 2 (a := nextA first 0) (by omega) (by omega)
    have b3 := nextR_lt (l := first) (a := 0) (n := 3) (by omega) (by omega)
    have b2 := nextR_lt (l := first) (a := nextA first 0) (n := 2) (by omega) (by omega)
    generalize nextR first 0 3 = r3 at n3 b3
    generalize nextR first (nextA first 0) 2 = r2 at n2 b2
    have w3 : IntKind.i64.wrap (1 + (r3 : Int)) = ((1 + r3 : Nat) : Int) := (wrap64 (by omega) (by omega)).trans (by omega)
    have w2 : IntKind.i64.wrap (1 + (r2 : Int)) = ((1 + r2 : Nat) : Int) := (wrap64 (by omega) (by omega)).trans (by omega)
    have f3 : V.int .i64 (IntKind.i64.wrap (1 + (r3 : Int))) = vnat (1 + r3) := by rw [w3]
    have f2 : V.int .i64 (IntKind.i64.wrap (1 + (r2 : Int))) = vnat (1 + r2) := by rw [w2]
    have fin : ∀ (S : SS) (gd go : Nat), SS.Sub ⟨[(5, intsV second), (6, intsV third), (7, .ptr 672 gd 0 0), (8, V.int .i64 (IntKind.i64.wrap (1 + (r3 : Int)))), (9, if IntKind.i64.wrap (1 + (r3 : Int)) = 3 then vi 1 else V.int .i64 (IntKind.i64.wrap (1 + (r2 : Int)))), (10, .ptr 176 go 0 0), (11, vi 0)],
        [(672, ⟨gd, 2, false, false, some [drawV first (nextA first (nextA first 0))]⟩), (176, ⟨go, 6, false, false, some [.agg [vi 0, vi 0, vi 0, vi 0, vi 0, vi 0]]⟩)]⟩ S →
        LoopS E f83_l1 S (outS 0 (thenS (finS f83.results [listsV ls] Made07R) fun S' => wps E (tailOf f83_b 11) S' (finS f83.results [listsV ls] Made07R))) := by
      intro S gd go hS
      by_cases hc : IntKind.i64.wrap (1 + (r3 : Int)) = 3
      · rw [f3, if_pos hc] at hS
        exact made07_loop (w := 1 + r3) (h := 1) ls h1 h2 h3 (by omega) (by omega) (by omega) (by omega) S gd go _ [0, 0, 0, 0, 0, 0] rfl hS
      · rw [f3, if_neg hc, f2] at hS
        exact made07_loop (w := 1 + r3) (h := 1 + r2) ls h1 h2 h3 (by omega) (by omega) (by omega) (by omega) S gd go _ [0, 0, 0, 0, 0, 0] rfl hS
    rcases (by omega : ls.length = 0 ∨ ls.length = 1 ∨ ls.length = 2 ∨ 2 < ls.length) with hz | hz | hz | hz
    · obtain rfl := e1 (by omega)
      obtain rfl := e2 (by omega)
      obtain rfl := e3 (by omega)
      (conv => whnf); repeat' ((first | intro g | refine CallS.mk _ (n3) ?_ | refine CallS.mk _ (n2) ?_ | refine st ?_ | (refine Wit.strS ?_; intro s) | (first | refine b1 ?_ ?_ | refine b2 ?_ ?_ | refine Br.mk ?_ ?_) <;> intro hc | exact rfl) <;> conv => whnf)
      all_goals (rename_i gd; refine fin _ gd g ?_)
      all_goals first | rw [if_pos hc] | rw [if_neg hc]
      all_goals (refine ⟨?_, ?_⟩ <;> repeat' (first | exact True.intro | refine ai ?_ | refine And.intro ?_ ?_))
    · obtain rfl := e2 (by omega)
      obtain rfl := e3 (by omega)
      (conv => whnf); repeat' ((first | intro g | refine Wit.mk _ (lists_get (k1 (by omega))) ?_ | refine CallS.mk _ (n3) ?_ | refine CallS.mk _ (n2) ?_ | refine st ?_ | (refine Wit.strS ?_; intro s) | (first | refine b1 ?_ ?_ | refine b2 ?_ ?_ | refine Br.mk ?_ ?_) <;> intro hc | exact rfl) <;> conv => whnf)
      all_goals (rename_i gd; refine fin _ gd g ?_)
      all_goals first | rw [if_pos hc] | rw [if_neg hc]
      all_goals (refine ⟨?_, ?_⟩ <;> repeat' (first | exact True.intro | refine ai ?_ | refine And.intro ?_ ?_))
    · obtain rfl := e3 (by omega)
      (conv => whnf); repeat' ((first | intro g | refine Wit.mk _ (lists_get (k1 (by omega))) ?_ | refine Wit.mk _ (lists_get (k2 (by omega))) ?_ | refine CallS.mk _ (n3) ?_ | refine CallS.mk _ (n2) ?_ | refine st ?_ | (refine Wit.strS ?_; intro s) | (first | refine b1 ?_ ?_ | refine b2 ?_ ?_ | refine Br.mk ?_ ?_) <;> intro hc | exact rfl) <;> conv => whnf)
      all_goals (rename_i gd; refine fin _ gd g ?_)
      all_goals first | rw [if_pos hc] | rw [if_neg hc]
      all_goals (refine ⟨?_, ?_⟩ <;> repeat' (first | exact True.intro | refine ai ?_ | refine And.intro ?_ ?_))
    · (conv => whnf); repeat' ((first | intro g | refine Wit.mk _ (lists_get (k1 (by omega))) ?_ | refine Wit.mk _ (lists_get (k2 (by omega))) ?_ | refine Wit.mk _ (lists_get (k3 (by omega))) ?_ | refine CallS.mk _ (n3) ?_ | refine CallS.mk _ (n2) ?_ | refine st ?_ | (refine Wit.strS ?_; intro s) | (first | refine b1 ?_ ?_ | refine b2 ?_ ?_ | refine Br.mk ?_ ?_) <;> intro hc | exact rfl) <;> conv => whnf)
      all_goals (rename_i gd; refine fin _ gd g ?_)
      all_goals first | rw [if_pos hc] | rw [if_neg hc]
      all_goals (refine ⟨?_, ?_⟩ <;> repeat' (first | exact True.intro | refine ai ?_ | refine And.intro ?_ ?_))
  have pick : ∀ k, ∃ l : List Int, l.length < 9223372036854775808 ∧ (k < ls.length → ls[k]? = some l) ∧ (ls.length ≤ k → l = []) := by
    intro k
    by_cases hk : k < ls.length
    · obtain ⟨l, a1, a2⟩ := key k hk
      exact ⟨l, a2, fun _ => a1, fun h => by omega⟩
    · exact ⟨[], by simp, fun h => by omega, fun _ => rfl⟩
  obtain ⟨first, a1, b1, c1⟩ := pick 0
  obtain ⟨second, a2, b2, c2⟩ := pick 1
  obtain ⟨third, a3, b3, c3⟩ := pick 2
  exact gen first second third a1 a2 a3 b1 b2 b3 c1 c2 c3
end Go.AM
