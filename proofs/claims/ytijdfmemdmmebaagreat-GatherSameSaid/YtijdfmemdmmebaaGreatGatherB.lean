/-
  Texts of the proof, joined by program: SGatherG, SGatherH, SGatherI. Own work.
-/
import Derived.Test.YtijdfmemdmmebaaGreatGatherA
set_option linter.unusedSimpArgs false
set_option linter.unusedVariables false
set_option maxRecDepth 20000
namespace Go.AM

theorem erase_skip {α : Type} {L : List α} {i n : Nat} (hi : n = i) (hl : n < L.length) : (L.take (n + 1)).eraseIdx i = (L.take n).eraseIdx i := by
  subst hi
  have hn : (L.take n).length = n := by simp; omega
  rw [List.take_succ_eq_append_getElem hl, List.eraseIdx_append_of_length_le (by omega), hn, Nat.sub_self, List.eraseIdx_of_length_le (l := L.take n) (by omega)]
  simp
theorem erase_keep {α : Type} {L : List α} {i n : Nat} {x : α} (hi : n ≠ i) (hx : L[n]? = some x) : (L.take (n + 1)).eraseIdx i = (L.take n).eraseIdx i ++ [x] := by
  obtain ⟨hl, rfl⟩ := List.getElem?_eq_some_iff.1 hx
  rw [List.take_succ_eq_append_getElem hl]
  by_cases h : i < n
  · rw [List.eraseIdx_append_of_lt_length (by simp; omega)]
  · have hn : (L.take n).length = n := by simp; omega
    rw [List.eraseIdx_of_length_le (l := L.take n ++ [L[n]]) (by simp [hn]; omega), List.eraseIdx_of_length_le (l := L.take n) (by omega)]

def mapParts (m : GMap) (pv : V) : V := .agg [.lit 4 (m.edges.map Edge.v), .lit 5 (m.faces.map Face.v), .lit 8 (m.ways.map Way.v), pv]

set_option maxHeartbeats 4000000 in
theorem rapply_ev {m : GMap} (h : m.Fit) (place into : Int) : Ev E 88 [m.v, vi place, vi into] ⟨if canP m.places place into = 0 then
      .tuple [mapParts m (.own 7 ((applyPs m.places place into).map Place.v)), vi 0]
    else .tuple [GMap.zero.v, vi (canP m.places place into)], []⟩ := by
  have hcan := rcan_ev h.p place into
  have hp1 := rplace_ev h.p place
  have hp2 := rplace_ev h.p into
  by_cases hc0 : canP m.places place into = 0
  case neg =>
    rw [if_neg hc0]
    refine Ev.of_s' E_88 (X_88 _) rfl ?_
    (conv => whnf); repeat' ((first | intro g | refine CallS.mk _ (hcan) ?_ | refine st ?_ | (first | refine b1 ?_ ?_ | refine b2 ?_ ?_ | refine Br.mk ?_ ?_) <;> intro hc | exact rfl) <;> conv => whnf)
  rw [if_pos hc0]
  rw [hc0] at hcan
  rcases find_cases m.places place with h1 | ⟨i, a, h1, ha, hia⟩
  · exact absurd hc0 (by simp [canP, h1])
  rcases find_cases m.places into with h2 | ⟨k, b, h2, hb, hkb⟩
  · exact absurd hc0 (by simp [canP, h2])
  rw [h1] at hp1
  rw [h2] at hp2
  have hil : i < m.places.length := (List.getElem?_eq_some_iff.1 ha).1
  have hkl : k < m.places.length := (List.getElem?_eq_some_iff.1 hb).1
  have hik : i ≠ k := by
    intro e; subst e
    rw [ha] at hb; injection hb with hb; subst hb
    have : canPP place into a a = 1 := by simp [canPP, ← hia, ← hkb]
    simp [canP, h1, h2, ha, this] at hc0
  have hp := h.p
  have hap : applyPs m.places place into = (m.places.set k (joined a b)).eraseIdx i := by simp [applyPs, h1, h2, ha, hb]
  rw [hap]
  have hj : joined a b = { b with weight := if 255 < IntKind.i64.wrap (a.weight + b.weight) then 255 else IntKind.i64.wrap (a.weight + b.weight), name := if b.name = [] then a.name else b.name } := by
    unfold joined orS w64; rw [Int.add_comm]
  generalize hb' : joined a b = b' at hj
  generalize hL : m.places.set k b' = L
  have hLl : L.length = m.places.length := by rw [← hL]; simp
  have hLk : L[k]? = some b' := by rw [← hL]; simp [hkl]
  have hLn : ∀ n, n ≠ k → L[n]? = m.places[n]? := fun n hn => by rw [← hL, List.getElem?_set_ne (Ne.symm hn)]
  refine Ev.of_s' E_88 (X_88 _) rfl ?_
  (conv => whnf); repeat' ((first | intro g | refine Wit.mk _ (map_get ha rfl) ?_ | refine Wit.mk _ (map_get hb rfl) ?_ | refine CallS.mk _ (hcan) ?_ | refine CallS.mk _ (hp1) ?_ | refine CallS.mk _ (hp2) ?_ | refine st ?_ | (first | refine b1 ?_ ?_ | refine b2 ?_ ?_ | refine Br.mk ?_ ?_) <;> intro hc | exact rfl) <;> conv => whnf)
  all_goals
    rename_i g3 g6 g11
    first | rw [if_pos hc] at hj | rw [if_neg hc] at hj
    refine LoopS.by (fun ((n, og) : Nat × Option Nat) => ⟨[(3, .ptr 64 g3 0 0), (6, .ptr 112 g6 0 0), (9, vnat i), (10, vnat k), (11, .ptr 192 g11 0 0), (12, .ptr 208 g 0 0), (13, vnat n)],
      match og with
      | none => [(64, ⟨g3, 4, false, false, some [m.v]⟩), (112, ⟨g6, 4, false, false, some [GMap.zero.v]⟩), (192, ⟨g11, 7, false, false, some [b'.v]⟩), (208, ⟨g, 4, false, false, some [mapParts m .nils]⟩)]
      | some g' => [(64, ⟨g3, 4, false, false, some [m.v]⟩), (112, ⟨g6, 4, false, false, some [GMap.zero.v]⟩), (192, ⟨g11, 7, false, false, some [b'.v]⟩), (208, ⟨g, 4, false, false, some [mapParts m (.sl 213 g' 0 ((L.take n).eraseIdx i).length)]⟩), (213, ⟨g', 7, true, false, some (((L.take n).eraseIdx i).map Place.v)⟩)]⟩)
      (fun (n, og) => n ≤ m.places.length ∧ (og = none → (L.take n).eraseIdx i = [])) (fun (n, _) => m.places.length - n) (0, none) ?_ ⟨by simp, by simp⟩ ?_
    · (refine ⟨?_, ?_⟩ <;> repeat' (first | exact True.intro | refine And.intro ((by (conv => whnf); rw [hj]; rfl)) ?_ | refine ai ?_ | refine And.intro ?_ ?_))
    rintro ⟨n, og⟩ ⟨hn, hog⟩
    try dsimp only at hn hog
    have hAl : ((L.take n).eraseIdx i).length ≤ n := Nat.le_trans (List.length_eraseIdx_le _ _) (by rw [List.length_take]; omega)
    by_cases hlt : n < m.places.length
    · have hnw : IntKind.i64.wrap ((n : Int) + 1) = ((n + 1 : Nat) : Int) := (wrap64 (by omega) (by omega)).trans (by omega)
      by_cases hnk : n = k
      · subst hnk
        have hnext := erase_keep (i := i) (Ne.symm hik) hLk
        cases og with
        | none =>
          have hA := hog rfl
          rw [hA] at hnext
          (conv => whnf); repeat' ((first | intro g | refine st ?_ | (first | refine b1 ?_ ?_ | refine b2 ?_ ?_ | refine Br.mk ?_ ?_) <;> intro hc | exact rfl) <;> conv => whnf)
          refine NxtS.mk (n + 1, some g) (by first | omega | (dsimp only; omega)) ⟨(by first | omega | (dsimp only; omega)), by simp⟩ ?_
          (refine ⟨?_, ?_⟩ <;> repeat' (first | exact True.intro | refine And.intro ((by (conv => whnf); rw [hnext]; rfl)) ?_ | refine ai ?_ | refine And.intro ?_ ?_))
        | some g' =>
          (conv => whnf); repeat' ((first | intro g | refine st ?_ | (first | refine b1 ?_ ?_ | refine b2 ?_ ?_ | refine Br.mk ?_ ?_) <;> intro hc | exact rfl) <;> conv => whnf)
          refine NxtS.mk (n + 1, some g) (by first | omega | (dsimp only; omega)) ⟨(by first | omega | (dsimp only; omega)), by simp⟩ ?_
          (refine ⟨?_, ?_⟩ <;> repeat' (first | exact True.intro | refine And.intro ((by (conv => whnf); rw [hnext]; simp [mapParts])) ?_ | refine ai ?_ | refine And.intro ?_ ?_))
      by_cases hni : n = i
      · have hnext := erase_skip hni (L := L) (by omega)
        cases og with
        | none =>
          have hA := hog rfl
          rw [hA] at hnext
          (conv => whnf); repeat' ((first | intro g | refine st ?_ | (first | refine b1 ?_ ?_ | refine b2 ?_ ?_ | refine Br.mk ?_ ?_) <;> intro hc | exact rfl) <;> conv => whnf)
          exact NxtS.mk (n + 1, none) (by first | omega | (dsimp only; omega)) ⟨(by first | omega | (dsimp only; omega)), fun _ => hnext⟩ (by (refine ⟨?_, ?_⟩ <;> repeat' (first | exact True.intro | refine ai ?_ | refine And.intro ?_ ?_)))
        | some g' =>
          (conv => whnf); repeat' ((first | intro g | refine st ?_ | (first | refine b1 ?_ ?_ | refine b2 ?_ ?_ | refine Br.mk ?_ ?_) <;> intro hc | exact rfl) <;> conv => whnf)
          refine NxtS.mk (n + 1, some g') (by first | omega | (dsimp only; omega)) ⟨(by first | omega | (dsimp only; omega)), by simp⟩ ?_
          (refine ⟨?_, ?_⟩ <;> repeat' (first | exact True.intro | refine And.intro ((by (conv => whnf); rw [hnext])) ?_ | refine ai ?_ | refine And.intro ?_ ?_))
      obtain ⟨x, hx⟩ : ∃ x, m.places[n]? = some x := ⟨_, get_lt hlt⟩
      have hnext := erase_keep (i := i) hni (by rw [hLn n hnk]; exact hx)
      cases og with
      | none =>
        have hA := hog rfl
        rw [hA] at hnext
        (conv => whnf); repeat' ((first | intro g | refine Wit.mk _ (map_get hx rfl) ?_ | refine st ?_ | (first | refine b1 ?_ ?_ | refine b2 ?_ ?_ | refine Br.mk ?_ ?_) <;> intro hc | exact rfl) <;> conv => whnf)
        refine NxtS.mk (n + 1, some g) (by first | omega | (dsimp only; omega)) ⟨(by first | omega | (dsimp only; omega)), by simp⟩ ?_
        (refine ⟨?_, ?_⟩ <;> repeat' (first | exact True.intro | refine And.intro ((by (conv => whnf); rw [hnext]; rfl)) ?_ | refine ai ?_ | refine And.intro ?_ ?_))
      | some g' =>
        (conv => whnf); repeat' ((first | intro g | refine Wit.mk _ (map_get hx rfl) ?_ | refine st ?_ | (first | refine b1 ?_ ?_ | refine b2 ?_ ?_ | refine Br.mk ?_ ?_) <;> intro hc | exact rfl) <;> conv => whnf)
        refine NxtS.mk (n + 1, some g) (by first | omega | (dsimp only; omega)) ⟨(by first | omega | (dsimp only; omega)), by simp⟩ ?_
        (refine ⟨?_, ?_⟩ <;> repeat' (first | exact True.intro | refine And.intro ((by (conv => whnf); rw [hnext]; simp [mapParts])) ?_ | refine ai ?_ | refine And.intro ?_ ?_))
    · obtain rfl : n = m.places.length := by omega
      have hfull : L.take m.places.length = L := List.take_of_length_le (by omega)
      rw [hfull] at hog hAl
      cases og with
      | none =>
        have := hog rfl
        have h9 := congrArg List.length this
        rw [List.length_eraseIdx, if_pos (by omega), List.length_nil] at h9
        omega
      | some g' =>
        (conv => whnf); repeat' ((first | intro g | refine Wit.mk _ (win_self (by simp)) ?_ | refine st ?_ | (first | refine b1 ?_ ?_ | refine b2 ?_ ?_ | refine Br.mk ?_ ?_) <;> intro hc | exact rfl) <;> conv => whnf)
        rw [hfull]; rfl

/-! what is the same as itself -/
theorem sameEv_ev {l : List Event} (h : l.length < 1000000) : Ev E 10 [.lit 5 (l.map Event.v), .lit 5 (l.map Event.v)] ⟨.bool true, []⟩ := by
  refine Ev.of_s' E_10 (X_10 _) rfl ?_
  (conv => whnf); repeat' ((first | intro g | refine st ?_ | (first | refine b1 ?_ ?_ | refine b2 ?_ ?_ | refine Br.mk ?_ ?_) <;> intro hc | exact rfl) <;> conv => whnf)
  refine LoopS.by (fun (i : Nat) => ⟨[(0, .lit 5 (l.map Event.v)), (1, .lit 5 (l.map Event.v)), (5, vnat i)], []⟩) (fun i => i ≤ l.length) (fun i => l.length - i) 0 (by (refine ⟨?_, ?_⟩ <;> repeat' (first | exact True.intro | refine ai ?_ | refine And.intro ?_ ?_))) (by simp) ?_
  intro i hi
  (conv => whnf); repeat' ((first | intro g | refine st ?_ | (first | refine b1 ?_ ?_ | refine b2 ?_ ?_ | refine Br.mk ?_ ?_) <;> intro hc | exact rfl) <;> conv => whnf)
  all_goals first | exact NxtS.mk (i + 1) (by first | omega | (dsimp only; omega)) (by omega) (by (refine ⟨?_, ?_⟩ <;> repeat' (first | exact True.intro | refine ai ?_ | refine And.intro ?_ ?_))) | (simp at hc; done) | trace_state
end Go.AM

set_option maxRecDepth 20000
namespace Go.AM
theorem sameLine5_ev {l : List Pt} (h : l.length < 1000000) : Ev E 165 [ptsV l, ptsV l] ⟨.bool true, []⟩ := by
  refine Ev.of_s' E_165 (X_165 _) rfl ?_
  (conv => whnf); repeat' ((first | intro g | refine st ?_ | (first | refine b1 ?_ ?_ | refine b2 ?_ ?_ | refine Br.mk ?_ ?_) <;> intro hc | exact rfl) <;> conv => whnf)
  refine LoopS.by (fun (i : Nat) => ⟨[(0, ptsV l), (1, ptsV l), (5, vnat i)], []⟩) (fun i => i ≤ l.length) (fun i => l.length - i) 0 (by (refine ⟨?_, ?_⟩ <;> repeat' (first | exact True.intro | refine ai ?_ | refine And.intro ?_ ?_))) (by simp) ?_
  intro i hi
  (conv => whnf); repeat' ((first | intro g | refine st ?_ | (first | refine b1 ?_ ?_ | refine b2 ?_ ?_ | refine Br.mk ?_ ?_) <;> intro hc | exact rfl) <;> conv => whnf)
  all_goals first | exact NxtS.mk (i + 1) (by first | omega | (dsimp only; omega)) (by omega) (by (refine ⟨?_, ?_⟩ <;> repeat' (first | exact True.intro | refine ai ?_ | refine And.intro ?_ ?_))) | (simp at hc; done) | trace_state
theorem sameLine10_ev {l : List Pt} (h : l.length < 1000000) : Ev E 125 [ptsV l, ptsV l] ⟨.bool true, []⟩ := by
  refine Ev.of_s' E_125 (X_125 _) rfl ?_
  (conv => whnf); repeat' ((first | intro g | refine st ?_ | (first | refine b1 ?_ ?_ | refine b2 ?_ ?_ | refine Br.mk ?_ ?_) <;> intro hc | exact rfl) <;> conv => whnf)
  refine LoopS.by (fun (i : Nat) => ⟨[(0, ptsV l), (1, ptsV l), (5, vnat i)], []⟩) (fun i => i ≤ l.length) (fun i => l.length - i) 0 (by (refine ⟨?_, ?_⟩ <;> repeat' (first | exact True.intro | refine ai ?_ | refine And.intro ?_ ?_))) (by simp) ?_
  intro i hi
  (conv => whnf); repeat' ((first | intro g | refine st ?_ | (first | refine b1 ?_ ?_ | refine b2 ?_ ?_ | refine Br.mk ?_ ?_) <;> intro hc | exact rfl) <;> conv => whnf)
  all_goals first | exact NxtS.mk (i + 1) (by first | omega | (dsimp only; omega)) (by omega) (by (refine ⟨?_, ?_⟩ <;> repeat' (first | exact True.intro | refine ai ?_ | refine And.intro ?_ ?_))) | (simp at hc; done) | trace_state

theorem sameWay_ev (w : Way) (h : w.line.length < 1000000) : Ev E 126 [w.v, w.v] ⟨.bool true, []⟩ := by
  have hl := sameLine5_ev h
  refine Ev.of_s' E_126 (X_126 _) rfl ?_
  (conv => whnf); repeat' ((first | intro g | refine CallS.mk _ (hl) ?_ | refine st ?_ | (first | refine b1 ?_ ?_ | refine b2 ?_ ?_ | refine Br.mk ?_ ?_) <;> intro hc | exact rfl) <;> conv => whnf)
  all_goals simp

set_option maxHeartbeats 2000000 in
theorem sameMap_ev {m : GMap} (h : m.Fit) : Ev E 89 [m.v, m.v] ⟨.bool true, []⟩ := by
  have he := h.e
  have hf := h.f
  have hw := h.w
  have hp := h.p
  refine Ev.of_s' E_89 (X_89 _) rfl ?_
  (conv => whnf); repeat' ((first | intro g | refine st ?_ | (first | refine b1 ?_ ?_ | refine b2 ?_ ?_ | refine Br.mk ?_ ?_) <;> intro hc | exact rfl) <;> conv => whnf)
  rename_i g1
  refine LoopS.by (fun (i : Nat) => ⟨[(2, .ptr 48 g1 0 0), (3, .ptr 64 g 0 0), (5, vnat i)], [(48, ⟨g1, 4, false, false, some [m.v]⟩), (64, ⟨g, 4, false, false, some [m.v]⟩)]⟩) (fun i => i ≤ m.edges.length) (fun i => m.edges.length - i) 0 (by (refine ⟨?_, ?_⟩ <;> repeat' (first | exact True.intro | refine ai ?_ | refine And.intro ?_ ?_))) (by simp) ?_
  intro i hi
  by_cases hlt : i < m.edges.length
  · obtain ⟨e, hx⟩ : ∃ e, m.edges[i]? = some e := ⟨_, get_lt hlt⟩
    have hl := sameLine10_ev (h.el e (List.mem_of_getElem? hx))
    (conv => whnf); repeat' ((first | intro g | refine Wit.mk _ (map_get hx rfl) ?_ | refine CallS.mk _ (hl) ?_ | refine st ?_ | (first | refine b1 ?_ ?_ | refine b2 ?_ ?_ | refine Br.mk ?_ ?_) <;> intro hc | exact rfl) <;> conv => whnf)
    all_goals first | exact NxtS.mk (i + 1) (by first | omega | (dsimp only; omega)) (by omega) (by (refine ⟨?_, ?_⟩ <;> repeat' (first | exact True.intro | refine ai ?_ | refine And.intro ?_ ?_))) | (simp at hc; done) | trace_state
  obtain rfl : i = m.edges.length := by omega
  (conv => whnf); repeat' ((first | intro g | refine st ?_ | (first | refine b1 ?_ ?_ | refine b2 ?_ ?_ | refine Br.mk ?_ ?_) <;> intro hc | exact rfl) <;> conv => whnf)
  refine LoopS.by (fun (i : Nat) => ⟨[(2, .ptr 48 g1 0 0), (3, .ptr 64 g 0 0), (7, vnat i)], [(48, ⟨g1, 4, false, false, some [m.v]⟩), (64, ⟨g, 4, false, false, some [m.v]⟩)]⟩) (fun i => i ≤ m.faces.length) (fun i => m.faces.length - i) 0 (by (refine ⟨?_, ?_⟩ <;> repeat' (first | exact True.intro | refine ai ?_ | refine And.intro ?_ ?_))) (by simp) ?_
  intro i hi
  by_cases hlt : i < m.faces.length
  · obtain ⟨e, hx⟩ : ∃ e, m.faces[i]? = some e := ⟨_, get_lt hlt⟩
    (conv => whnf); repeat' ((first | intro g | refine Wit.mk _ (map_get hx rfl) ?_ | refine st ?_ | (first | refine b1 ?_ ?_ | refine b2 ?_ ?_ | refine Br.mk ?_ ?_) <;> intro hc | exact rfl) <;> conv => whnf)
    all_goals first | exact NxtS.mk (i + 1) (by first | omega | (dsimp only; omega)) (by omega) (by (refine ⟨?_, ?_⟩ <;> repeat' (first | exact True.intro | refine ai ?_ | refine And.intro ?_ ?_))) | (simp at hc; done) | trace_state
  obtain rfl : i = m.faces.length := by omega
  (conv => whnf); repeat' ((first | intro g | refine st ?_ | (first | refine b1 ?_ ?_ | refine b2 ?_ ?_ | refine Br.mk ?_ ?_) <;> intro hc | exact rfl) <;> conv => whnf)
  refine LoopS.by (fun (i : Nat) => ⟨[(2, .ptr 48 g1 0 0), (3, .ptr 64 g 0 0), (8, vnat i)], [(48, ⟨g1, 4, false, false, some [m.v]⟩), (64, ⟨g, 4, false, false, some [m.v]⟩)]⟩) (fun i => i ≤ m.ways.length) (fun i => m.ways.length - i) 0 (by (refine ⟨?_, ?_⟩ <;> repeat' (first | exact True.intro | refine ai ?_ | refine And.intro ?_ ?_))) (by simp) ?_
  intro i hi
  by_cases hlt : i < m.ways.length
  · obtain ⟨e, hx⟩ : ∃ e, m.ways[i]? = some e := ⟨_, get_lt hlt⟩
    have hl := sameWay_ev e (h.wl e (List.mem_of_getElem? hx))
    (conv => whnf); repeat' ((first | intro g | refine Wit.mk _ (map_get hx rfl) ?_ | refine CallS.mk _ (hl) ?_ | refine st ?_ | (first | refine b1 ?_ ?_ | refine b2 ?_ ?_ | refine Br.mk ?_ ?_) <;> intro hc | exact rfl) <;> conv => whnf)
    all_goals first | exact NxtS.mk (i + 1) (by first | omega | (dsimp only; omega)) (by omega) (by (refine ⟨?_, ?_⟩ <;> repeat' (first | exact True.intro | refine ai ?_ | refine And.intro ?_ ?_))) | (simp at hc; done) | trace_state
  obtain rfl : i = m.ways.length := by omega
  (conv => whnf); repeat' ((first | intro g | refine st ?_ | (first | refine b1 ?_ ?_ | refine b2 ?_ ?_ | refine Br.mk ?_ ?_) <;> intro hc | exact rfl) <;> conv => whnf)
  refine LoopS.by (fun (i : Nat) => ⟨[(2, .ptr 48 g1 0 0), (3, .ptr 64 g 0 0), (10, vnat i)], [(48, ⟨g1, 4, false, false, some [m.v]⟩), (64, ⟨g, 4, false, false, some [m.v]⟩)]⟩) (fun i => i ≤ m.places.length) (fun i => m.places.length - i) 0 (by (refine ⟨?_, ?_⟩ <;> repeat' (first | exact True.intro | refine ai ?_ | refine And.intro ?_ ?_))) (by simp) ?_
  intro i hi
  by_cases hlt : i < m.places.length
  · obtain ⟨e, hx⟩ : ∃ e, m.places[i]? = some e := ⟨_, get_lt hlt⟩
    (conv => whnf); repeat' ((first | intro g | refine Wit.mk _ (map_get hx rfl) ?_ | refine st ?_ | (first | refine b1 ?_ ?_ | refine b2 ?_ ?_ | refine Br.mk ?_ ?_) <;> intro hc | exact rfl) <;> conv => whnf)
    all_goals first | exact NxtS.mk (i + 1) (by first | omega | (dsimp only; omega)) (by omega) (by (refine ⟨?_, ?_⟩ <;> repeat' (first | exact True.intro | refine ai ?_ | refine And.intro ?_ ?_))) | (simp at hc; done) | trace_state
  obtain rfl : i = m.places.length := by omega
  (conv => whnf); repeat' ((first | intro g | refine st ?_ | (first | refine b1 ?_ ?_ | refine b2 ?_ ?_ | refine Br.mk ?_ ?_) <;> intro hc | exact rfl) <;> conv => whnf)
end Go.AM

set_option maxRecDepth 20000
namespace Go.AM

/-- the events of a district, in order -/
theorem events_eq {ps : List Place} {d : Int} {l l' : List Event} (h1 : l.Perm (evList ps d ps.length)) (h2 : l.Pairwise (NotAfter cmpId)) (h3 : l'.Perm (evList ps d ps.length)) (h4 : l'.Pairwise Before) : l = l' := by
  have hne : (evList ps d ps.length).Pairwise (fun a b => a.id ≠ b.id) := by
    simp only [evList]
    rw [List.pairwise_filterMap]
    refine List.Pairwise.imp_of_mem ?_ (List.nodup_range (n := ps.length))
    intro i j hi hj hij b hb b' hb' e
    have e1 := (evAt_id hb).1
    have e2 := (evAt_id hb').1
    rw [e, e2] at e1
    exact hij (by omega)
  have hne' : l.Pairwise (fun a b => a.id ≠ b.id) := (h1.pairwise_iff (fun {a b} h => fun e => h e.symm)).2 hne
  have hb : l.Pairwise Before := by
    refine (h2.and hne').imp ?_
    rintro a b ⟨h, hn⟩
    unfold NotAfter cmpId cmpI at h
    unfold Before
    split at h
    · omega
    · split at h
      · assumption
      · omega
  exact sorted_unique (k := Event.id) hb h4 (h1.trans h3.symm)

structure Pair where
  a : Int
  b : Int
def Pair.v (p : Pair) : V := .agg [vi p.a, vi p.b]

def withPs (m : GMap) (ps : List Place) : GMap := { m with places := ps }
theorem applyPs_len {ps : List Place} {a b : Int} : (applyPs ps a b).length ≤ ps.length := by
  unfold applyPs
  split
  · exact Nat.le_trans (List.length_eraseIdx_le _ _) (by simp)
  · simp

section
variable {m : GMap} (h : m.Fit) (hn : m.places.length ≤ 1000) (hfit : ∀ d, SortFit cmpId (evList m.places d m.places.length))
include h hn hfit
set_option maxHeartbeats 4000000 in
theorem same_ev (raw : Pair) (d : Int) : Ev E 78 [m.v, raw.v, vi d] ⟨.bool true, []⟩ := by
  have hp := h.p
  have hkk : ∀ k, k ≤ m.places.length → k * m.places.length ≤ 1000000 := fun k hk => by
    have := Nat.mul_le_mul (Nat.le_trans hk hn) hn
    omega
  refine Ev.of_s' E_78 (X_78 _) rfl ?_
  (conv => whnf); repeat' ((first | intro g | refine st ?_ | (first | refine b1 ?_ ?_ | refine b2 ?_ ?_ | refine Br.mk ?_ ?_) <;> intro hc | exact rfl) <;> conv => whnf)
  rename_i g64 _ _
  refine LoopS.by (fun ((k, prs, g7) : Nat × List Pair × Nat) => ⟨[(2, vi d), (3, .ptr 64 g64 0 0), (7, .sl 129 g7 0 prs.length), (23, .lit 7 (m.places.map Place.v)), (24, vnat (m.places.map Place.v).length), (25, vnat k)],
      [(64, ⟨g64, 4, false, false, some [m.v]⟩), (129, ⟨g7, 2, true, false, some (prs.map Pair.v)⟩)]⟩)
    (fun (k, prs, _) => k ≤ m.places.length ∧ prs.length = 1 + k * m.places.length) (fun (k, _) => m.places.length - k) (0, [raw], g) (by (refine ⟨?_, ?_⟩ <;> repeat' (first | exact True.intro | refine ai ?_ | refine And.intro ?_ ?_))) ⟨by simp, by simp⟩ ?_
  rintro ⟨k, prs, g7⟩ ⟨hk, hl⟩
  try dsimp only at hk hl
  have hkm := hkk k hk
  by_cases hlt : k < m.places.length
  · obtain ⟨p, hpk⟩ : ∃ p, m.places[k]? = some p := ⟨_, get_lt hlt⟩
    (conv => whnf); repeat' ((first | intro g | refine Wit.mk _ (map_get hpk rfl) ?_ | refine st ?_ | (first | refine b1 ?_ ?_ | refine b2 ?_ ?_ | refine Br.mk ?_ ?_) <;> intro hc | exact rfl) <;> conv => whnf)
    rename_i gp
    refine LoopS.by (fun ((i, prs, g7) : Nat × List Pair × Nat) => ⟨[(2, vi d), (3, .ptr 64 g64 0 0), (7, .sl 129 g7 0 prs.length), (23, .lit 7 (m.places.map Place.v)), (24, vnat (m.places.map Place.v).length), (25, vnat k),
        (9, .ptr 160 g 0 0), (30, .lit 7 (m.places.map Place.v)), (31, vnat (m.places.map Place.v).length), (32, vnat i)],
        [(64, ⟨g64, 4, false, false, some [m.v]⟩), (129, ⟨g7, 2, true, false, some (prs.map Pair.v)⟩), (160, ⟨g, 7, false, false, some [p.v]⟩)]⟩)
      (fun (i, prs, _) => i ≤ m.places.length ∧ prs.length = 1 + k * m.places.length + i) (fun (i, _) => m.places.length - i) (0, prs, g7) (by (refine ⟨?_, ?_⟩ <;> repeat' (first | exact True.intro | refine ai ?_ | refine And.intro ?_ ?_))) ⟨by simp, by simpa using hl⟩ ?_
    rintro ⟨i, prs, g7⟩ ⟨hi, hl⟩
    try dsimp only at hi hl
    by_cases hlti : i < m.places.length
    · obtain ⟨q, hq⟩ : ∃ q, m.places[i]? = some q := ⟨_, get_lt hlti⟩
      (conv => whnf); repeat' ((first | intro g | refine Wit.mk _ (map_get hq rfl) ?_ | refine st ?_ | (first | refine b1 ?_ ?_ | refine b2 ?_ ?_ | refine Br.mk ?_ ?_) <;> intro hc | exact rfl) <;> conv => whnf)
      exact NxtS.mk (i + 1, prs ++ [⟨p.id, q.id⟩], g) (by first | omega | (dsimp only; omega)) ⟨(by first | omega | (dsimp only; omega)), by simp; omega⟩ (by (refine ⟨?_, ?_⟩ <;> repeat' (first | exact True.intro | refine ai ?_ | refine And.intro ?_ ?_)))
    obtain rfl : i = m.places.length := by omega
    (conv => whnf); repeat' ((first | intro g | refine st ?_ | (first | refine b1 ?_ ?_ | refine b2 ?_ ?_ | refine Br.mk ?_ ?_) <;> intro hc | exact rfl) <;> conv => whnf)
    exact NxtS.mk (k + 1, prs, g7) (by first | omega | (dsimp only; omega)) ⟨(by first | omega | (dsimp only; omega)), by rw [Nat.succ_mul]; omega⟩ (by (refine ⟨?_, ?_⟩ <;> repeat' (first | exact True.intro | refine ai ?_ | refine And.intro ?_ ?_)))
  obtain rfl : k = m.places.length := by omega
  have hpl : prs.length < 2000000 := by omega
  (conv => whnf); repeat' ((first | intro g | refine st ?_ | (first | refine b1 ?_ ?_ | refine b2 ?_ ?_ | refine Br.mk ?_ ?_) <;> intro hc | exact rfl) <;> conv => whnf)
  refine LoopS.by (fun (j : Nat) => ⟨[(2, vi d), (3, .ptr 64 g64 0 0), (46, .sl 129 g7 0 prs.length), (47, vnat prs.length), (48, vnat j)],
      [(64, ⟨g64, 4, false, false, some [m.v]⟩), (129, ⟨g7, 2, true, false, some (prs.map Pair.v)⟩)]⟩)
    (fun j => j ≤ prs.length) (fun j => prs.length - j) 0 (by (refine ⟨?_, ?_⟩ <;> repeat' (first | exact True.intro | refine ai ?_ | refine And.intro ?_ ?_))) (by simp) ?_
  intro j hj
  by_cases hltj : j < prs.length
  · obtain ⟨x, hx⟩ : ∃ x, prs[j]? = some x := ⟨_, get_lt hltj⟩
    have a1 := apply_ev h x.a x.b
    have a2 := rapply_ev h x.a x.b
    have a3 := can_ev hp x.a x.b
    have a4 := cost_ev hp x.a x.b
    have a5 := rcost_ev hp x.a x.b
    by_cases hc0 : canP m.places x.a x.b = 0
    · rw [if_pos hc0] at a1 a2
      rw [hc0] at a3
      have hap := applyPs_len (ps := m.places) (a := x.a) (b := x.b)
      have a6 := sameMap_ev (m := withPs m (applyPs m.places x.a x.b)) ⟨h.e, h.f, h.w, by simp only [withPs]; omega, h.el, h.wl⟩
      (conv => whnf); repeat' ((first | intro g | refine Wit.mk _ (map_get hx rfl) ?_ | refine CallS.mk _ (a1) ?_ | refine CallS.mk _ (a2) ?_ | refine CallS.mk _ (a3) ?_ | refine CallS.mk _ (a4) ?_ | refine CallS.mk _ (a5) ?_ | refine CallS.mk _ (a6) ?_ | refine st ?_ | (first | refine b1 ?_ ?_ | refine b2 ?_ ?_ | refine Br.mk ?_ ?_) <;> intro hc | exact rfl) <;> conv => whnf)
      all_goals first | exact NxtS.mk (j + 1) (by first | omega | (dsimp only; omega)) (by omega) (by (refine ⟨?_, ?_⟩ <;> repeat' (first | exact True.intro | refine ai ?_ | refine And.intro ?_ ?_))) | (simp at hc; done) | trace_state
    · rw [if_neg hc0] at a1 a2
      have a6 := sameMap_ev (m := GMap.zero) ⟨by simp [GMap.zero], by simp [GMap.zero], by simp [GMap.zero], by simp [GMap.zero], by simp [GMap.zero], by simp [GMap.zero]⟩
      (conv => whnf); repeat' ((first | intro g | refine Wit.mk _ (map_get hx rfl) ?_ | refine CallS.mk _ (a1) ?_ | refine CallS.mk _ (a2) ?_ | refine CallS.mk _ (a3) ?_ | refine CallS.mk _ (a4) ?_ | refine CallS.mk _ (a5) ?_ | refine CallS.mk _ (a6) ?_ | refine st ?_ | (first | refine b1 ?_ ?_ | refine b2 ?_ ?_ | refine Br.mk ?_ ?_) <;> intro hc | exact rfl) <;> conv => whnf)
      all_goals first | exact NxtS.mk (j + 1) (by first | omega | (dsimp only; omega)) (by omega) (by (refine ⟨?_, ?_⟩ <;> repeat' (first | exact True.intro | refine ai ?_ | refine And.intro ?_ ?_))) | (simp at hc; done) | trace_state
  obtain rfl : j = prs.length := by omega
  (conv => whnf); repeat' ((first | intro g | refine st ?_ | (first | refine b1 ?_ ?_ | refine b2 ?_ ?_ | refine Br.mk ?_ ?_) <;> intro hc | exact rfl) <;> conv => whnf)
  refine LoopS.by (fun (j : Nat) => ⟨[(3, .ptr 64 g64 0 0), (106, .sl 1712 g 0 5), (107, vnat 5), (108, vnat j)],
      [(64, ⟨g64, 4, false, false, some [m.v]⟩), (1712, ⟨g, 1, true, false, some ([d, 0, 1, 2, 3].map vi)⟩)]⟩)
    (fun j => j ≤ 5) (fun j => 5 - j) 0 (by (refine ⟨?_, ?_⟩ <;> repeat' (first | exact True.intro | refine ai ?_ | refine And.intro ?_ ?_))) (by simp) ?_
  intro j hj
  by_cases hltj : j < 5
  · obtain ⟨x, hx⟩ : ∃ x, [d, 0, 1, 2, 3][j]? = some x := ⟨_, get_lt hltj⟩
    obtain ⟨l, b1, b2, b3⟩ := all_ev hp x (hfit x)
    obtain ⟨l', c1, c2, c3⟩ := rall_ev hp x
    obtain rfl := events_eq b1 b2 c1 c2
    have hll := b1.length_eq
    have hel := evList_len m.places x m.places.length
    have a7 := sameEv_ev (l := l) (by omega)
    (conv => whnf); repeat' ((first | intro g | refine Wit.mk _ (map_get hx rfl) ?_ | refine CallS.mk _ (b3) ?_ | refine CallS.mk _ (c3) ?_ | refine CallS.mk _ (a7) ?_ | refine st ?_ | (first | refine b1 ?_ ?_ | refine b2 ?_ ?_ | refine Br.mk ?_ ?_) <;> intro hc | exact rfl) <;> conv => whnf)
    all_goals first | exact NxtS.mk (j + 1) (by first | omega | (dsimp only; omega)) (by omega) (by (refine ⟨?_, ?_⟩ <;> repeat' (first | exact True.intro | refine ai ?_ | refine And.intro ?_ ?_))) | (simp at hc; done) | trace_state
  obtain rfl : j = 5 := by omega
  (conv => whnf); repeat' ((first | intro g | refine st ?_ | (first | refine b1 ?_ ?_ | refine b2 ?_ ?_ | refine Br.mk ?_ ?_) <;> intro hc | exact rfl) <;> conv => whnf)
end
end Go.AM
