/-
  Texts of the proof, joined by program: PBdD. Own work.
-/
import Derived.Test.YtjmcpijpclfakaaGreatGb
set_option linter.unusedSimpArgs false
set_option linter.unusedVariables false
set_option maxRecDepth 20000
namespace Go.AM
def union (a : List Str) : List Str → List Str
  | [] => a
  | s :: l => union (if s ∈ a then a else a ++ [s]) l
theorem union_append : ∀ (a b c : List Str), union a (b ++ c) = union (union a b) c
  | _, [], _ => rfl
  | a, s :: b, c => union_append _ b c
theorem union_len : ∀ (a b : List Str), (union a b).length ≤ a.length + b.length
  | _, [] => by simp [union]
  | a, s :: b => by
    have h := union_len (if s ∈ a then a else a ++ [s]) b
    unfold union
    split at h
    · rename_i hs; rw [if_pos hs]; simp; omega
    · rename_i hs; rw [if_neg hs]; simp at h ⊢; omega
theorem union_take {a b : List Str} {i : Nat} {s : Str} (h : b[i]? = some s) : union a (b.take (i + 1)) = if s ∈ union a (b.take i) then union a (b.take i) else union a (b.take i) ++ [s] := by
  rw [List.take_add_one, h, union_append]
  rfl
def either (a b : Bd) : Bd :=
  if a.text then (if a.some && b.some then ⟨0, 0, false, union a.ws b.ws, true, true⟩ else ⟨0, 0, false, [], false, true⟩) else nb (imin a.lo b.lo) (imax a.hi b.hi)
theorem cloneS_ev (l : List Str) (h : l.length < 1000000) : Ev E 407 [.lit 1 (l.map V.str)] ⟨.own 1 (l.map V.str), []⟩ :=
  Ev.ext (by rw [X_407]; simp [cloneV]; omega)
theorem eitherN_ev (a b : Bd) (h : a.text = false) : Ev E 378 [a.v, b.v] ⟨(either a b).v, []⟩ := by
  obtain ⟨lo, hi, nl, ws, so, tx⟩ := a
  dsimp only at h
  subst h
  simp only [Bd.v]
  generalize slS nl ws = A at *
  generalize slS b.nl b.ws = B at *
  refine Ev.of_s' E_378 (X_378 _) rfl ?_
  (conv => whnf); repeat' ((first | intro g | refine st ?_ | (first | refine b1 ?_ ?_ | refine b2 ?_ ?_ | refine Br.mk ?_ ?_) <;> intro hc | exact rfl) <;> conv => whnf)
theorem eitherT_ev (a b : Bd) (h : a.text = true) (h2 : (a.some && b.some) = false) : Ev E 378 [a.v, b.v] ⟨(either a b).v, []⟩ := by
  obtain ⟨lo, hi, nl, ws, so, tx⟩ := a
  obtain ⟨lo', hi', nl', ws', so', tx'⟩ := b
  dsimp only at h h2
  subst h
  simp only [Bd.v]
  have e : either ⟨lo, hi, nl, ws, so, true⟩ ⟨lo', hi', nl', ws', so', tx'⟩ = ⟨0, 0, false, [], false, true⟩ := by simp [either, h2]
  rw [e]
  generalize slS nl ws = A at *
  generalize slS nl' ws' = B at *
  cases so
  · refine Ev.of_s' E_378 (X_378 _) rfl ?_
    (conv => whnf); repeat' ((first | intro g | refine st ?_ | (first | refine b1 ?_ ?_ | refine b2 ?_ ?_ | refine Br.mk ?_ ?_) <;> intro hc | exact rfl) <;> conv => whnf)
  · cases so'
    · refine Ev.of_s' E_378 (X_378 _) rfl ?_
      (conv => whnf); repeat' ((first | intro g | refine st ?_ | (first | refine b1 ?_ ?_ | refine b2 ?_ ?_ | refine Br.mk ?_ ?_) <;> intro hc | exact rfl) <;> conv => whnf)
    · simp at h2
set_option maxHeartbeats 1000000 in
theorem eitherW_ev (a b : Bd) (h : a.text = true) (hs : a.some = true) (hs' : b.some = true) (hn : a.ws ≠ []) (hn' : b.ws ≠ []) (la : a.ws.length < 100000) (lb : b.ws.length < 100000) : ∃ v, Ev E 378 [a.v, b.v] ⟨v, []⟩ ∧ BdRes (either a b) v := by
  have hE : BdRes (either a b) (.agg [vi 0, vi 0, .own 1 ((union a.ws b.ws).map V.str), .bool true, .bool true]) := .inr (by simp [either, h, hs, hs', slS_false])
  refine ⟨_, ?_, hE⟩
  clear hE
  obtain ⟨lo, hi, nl, ws, so, tx⟩ := a
  obtain ⟨lo', hi', nl', ws', so', tx'⟩ := b
  dsimp only at h hs hs' hn hn' la lb ⊢
  subst h hs hs'
  have e : slS nl ws = .lit 1 (ws.map V.str) := by
    rcases slS_form nl ws with ⟨_, h0⟩ | h0
    · exact absurd h0 hn
    · exact h0
  have e' : slS nl' ws' = .lit 1 (ws'.map V.str) := by
    rcases slS_form nl' ws' with ⟨_, h0⟩ | h0
    · exact absurd h0 hn'
    · exact h0
  simp only [Bd.v, e, e']
  have hcl := cloneS_ev ws (by omega)
  refine Ev.of_s' E_378 (X_378 _) rfl ?_
  (conv => whnf); repeat' ((first | intro g | refine CallS.mk _ (hcl) ?_ | refine st ?_ | (first | refine b1 ?_ ?_ | refine b2 ?_ ?_ | refine Br.mk ?_ ?_) <;> intro hc | exact rfl) <;> conv => whnf)
  rename_i g48 g64 g80 g544
  refine LoopS.by (fun ((i, L, g9) : Nat × List Str × Nat) => ⟨[(4, .ptr 80 g80 0 0), (5, .sl 97 g9 0 L.length), (35, .lit 1 (ws'.map V.str)), (36, vnat (ws'.map V.str).length), (37, vnat i)],
      [(80, ⟨g80, 5, false, false, some [.agg [vi 0, vi 0, .lit 1 [], .bool false, .bool false]]⟩), (97, ⟨g9, 1, true, false, some (L.map V.str)⟩)]⟩)
    (fun (i, L, g9) => i ≤ ws'.length ∧ L = union ws (ws'.take i)) (fun (i, _, _) => ws'.length - i) (0, ws, g) (by (refine ⟨?_, ?_⟩ <;> repeat' (first | exact True.intro | refine ai ?_ | refine And.intro ?_ ?_))) ⟨by simp, rfl⟩ ?_
  rintro ⟨i, L, g9⟩ ⟨hi, hL⟩
  try dsimp only at hi hL
  have hll : L.length < 1000000 := by
    have h1 := union_len ws (ws'.take i)
    rw [← hL] at h1
    have h2 : (ws'.take i).length ≤ ws'.length := by simp; omega
    omega
  have lmL : (L.map V.str).length = L.length := List.length_map ..
  by_cases hlt : i < ws'.length
  · have hx : ws'[i]? = some ws'[i] := get_lt hlt
    generalize ws'[i] = x at hx
    have hc := cont_ev (sv := .lit 1 (L.map V.str)) (.inl rfl) x (by omega)
    have hU := union_take (a := ws) hx
    rw [← hL] at hU
    rw [hasS] at hc
    by_cases hm : x ∈ L
    · rw [decide_eq_true hm] at hc
      rw [if_pos hm] at hU
      (conv => whnf); repeat' ((first | intro g | refine Wit.mk _ (map_getE hx rfl rfl) ?_ | refine CallS.mk _ (hc) ?_ | refine st ?_ | (first | refine b1 ?_ ?_ | refine b2 ?_ ?_ | refine Br.mk ?_ ?_) <;> intro hc | exact rfl) <;> conv => whnf)
      exact NxtS.mk (i + 1, L, g9) (by first | omega | (dsimp only; omega)) ⟨by omega, hU.symm⟩ (by (refine ⟨?_, ?_⟩ <;> repeat' (first | exact True.intro | refine ai ?_ | refine And.intro ?_ ?_)))
    · rw [decide_eq_false hm] at hc
      rw [if_neg hm] at hU
      (conv => whnf); repeat' ((first | intro g | refine Wit.mk _ (map_getE hx rfl rfl) ?_ | refine CallS.mk _ (hc) ?_ | refine st ?_ | (first | refine b1 ?_ ?_ | refine b2 ?_ ?_ | refine Br.mk ?_ ?_) <;> intro hc | exact rfl) <;> conv => whnf)
      exact NxtS.mk (i + 1, L ++ [x], g) (by first | omega | (dsimp only; omega)) ⟨by omega, hU.symm⟩ (by (refine ⟨?_, ?_⟩ <;> repeat' (first | exact True.intro | refine ai ?_ | refine And.intro ?_ ?_)))
  · have hi2 : i = ws'.length := by omega
    subst hi2
    rw [List.take_length] at hL
    subst hL
    (conv => whnf); repeat' ((first | intro g | refine st ?_ | (first | refine b1 ?_ ?_ | refine b2 ?_ ?_ | refine Br.mk ?_ ?_) <;> intro hc | exact rfl) <;> conv => whnf)
theorem constN_ev (n : Int) (b : Bool) (s : Str) : Ev E 350 [(Va.mk 1 n b s).v] ⟨(nb n n).v, []⟩ := by
  refine Ev.of_s' E_350 (X_350 _) rfl ?_
  simp only [Va.v]
  (conv => whnf); repeat' ((first | intro g | refine st ?_ | (first | refine b1 ?_ ?_ | refine b2 ?_ ?_ | refine Br.mk ?_ ?_) <;> intro hc | exact rfl) <;> conv => whnf)
theorem constB_ev (n : Int) (b : Bool) (s : Str) : Ev E 350 [(Va.mk 2 n b s).v] ⟨(bif b then nb 1 1 else nb 0 0).v, []⟩ := by
  refine Ev.of_s' E_350 (X_350 _) rfl ?_
  simp only [Va.v]
  cases b
  all_goals (conv => whnf); repeat' ((first | intro g | refine CallS.mk _ (yes_ev) ?_ | refine CallS.mk _ (no_ev) ?_ | refine st ?_ | (first | refine b1 ?_ ?_ | refine b2 ?_ ?_ | refine Br.mk ?_ ?_) <;> intro hc | exact rfl) <;> conv => whnf)
theorem constS_ev (n : Int) (b : Bool) (s : Str) : Ev E 350 [(Va.mk 3 n b s).v] ⟨.agg [vi 0, vi 0, .own 1 [.str s], .bool true, .bool true], []⟩ := by
  refine Ev.of_s' E_350 (X_350 _) rfl ?_
  simp only [Va.v]
  (conv => whnf); repeat' ((first | intro g | refine st ?_ | (first | refine b1 ?_ ?_ | refine b2 ?_ ?_ | refine Br.mk ?_ ?_) <;> intro hc | exact rfl) <;> conv => whnf)
end Go.AM
