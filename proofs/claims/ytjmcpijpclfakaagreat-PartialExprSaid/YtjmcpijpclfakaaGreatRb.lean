/-
  Texts of the proof, joined by program: PGenG, PGenE, PSanB. Own work.
-/
import Derived.Test.YtjmcpijpclfakaaGreatRa
import Derived.Test.YtjmcpijpclfakaaGreatGa
import Derived.Test.YtjmcpijpclfakaaGreatQa
import Derived.Test.YtjmcpijpclfakaaGreatHa
import Derived.Test.YtjmcpijpclfakaaGreatData
set_option linter.unusedSimpArgs false
set_option linter.unusedVariables false
set_option maxRecDepth 20000
namespace Go.AM
set_option maxHeartbeats 4000000 in
theorem cut_ev {raw : List Kno} (hl : raw.length < 9223372036854775808) (hraw : ∀ k ∈ raw, k.texts.length < 9223372036854775808 ∧ ∀ s ∈ k.texts, s.length < 9223372036854775808) : ∃ ks : List Kno, ks.length ≤ 9 ∧ (∀ k ∈ ks, KSmall k) ∧ Ev E 316 [.lit 4 (raw.map Kno.v)] ⟨.own 4 (ks.map Kno.v), []⟩ := by
  have key := Ev.of_s (R := fun r => ∃ ks : List Kno, ks.length ≤ 9 ∧ (∀ k ∈ ks, KSmall k) ∧ r = ⟨.own 4 (ks.map Kno.v), []⟩) E_316 (X_316 [.lit 4 (raw.map Kno.v)]) rfl ?_
  · obtain ⟨r, h1, ks, h2, h3, rfl⟩ := key
    exact ⟨ks, h2, h3, h1⟩
  have lm : (raw.map Kno.v).length = raw.length := List.length_map ..
  (conv => whnf); repeat' ((first | intro g | refine st ?_ | (first | refine b1 ?_ ?_ | refine b2 ?_ ?_ | refine Br.mk ?_ ?_) <;> intro hc | exact rfl) <;> conv => whnf)
  rename_i _
  refine LoopS.by (fun ((k, ks, g65) : Nat × List Kno × Nat) => ⟨[(0, .lit 4 (raw.map Kno.v)), (3, .sl 65 g65 0 ks.length), (4, vnat k)],
      [(65, ⟨g65, 4, true, false, some (ks.map Kno.v)⟩)]⟩)
    (fun (k, ks, _) => k ≤ 6 ∧ ks.length = k ∧ ∀ k ∈ ks, KSmall k) (fun (k, _, _) => 6 - k) (0, [], g) (by (refine ⟨?_, ?_⟩ <;> repeat' (first | exact True.intro | refine ai ?_ | refine And.intro ?_ ?_))) ⟨by simp, by simp, by simp⟩ ?_
  rintro ⟨k, ks, g65⟩ ⟨hk6, hkl, hks⟩
  try dsimp only at hk6 hkl hks
  have lmk : (ks.map Kno.v).length = ks.length := List.length_map ..
  have hKp : V.arePure (ks.map Kno.v) = true := AM.pures Kno.pure ks
  have hKl : 0 + ks.length ≤ (ks.map Kno.v).length := by omega
  by_cases hlt : k < raw.length ∧ k < 6
  rotate_left
  · by_cases h1 : k < raw.length
    · have h2 : ¬ k < 6 := fun h => hlt ⟨h1, h⟩
      (conv => whnf); repeat' ((first | intro g | refine Need.mk (⟨hKl, hKp⟩) ?_ | refine st ?_ | (first | refine b1 ?_ ?_ | refine b2 ?_ ?_ | refine Br.mk ?_ ?_) <;> intro hc | exact rfl) <;> conv => whnf)
      exact ⟨ks, by omega, hks, rfl⟩
    · (conv => whnf); repeat' ((first | intro g | refine Need.mk (⟨hKl, hKp⟩) ?_ | refine st ?_ | (first | refine b1 ?_ ?_ | refine b2 ?_ ?_ | refine Br.mk ?_ ?_) <;> intro hc | exact rfl) <;> conv => whnf)
      exact ⟨ks, by omega, hks, rfl⟩
  obtain ⟨h1, h2⟩ := hlt
  have hx : raw[k]? = some raw[k] := get_lt h1
  generalize raw[k] = x at hx
  have hxr := hraw x (List.mem_of_getElem? hx)
  obtain ⟨t, hxv, ht⟩ := x.form4
  have lmt : (x.texts.map V.str).length = x.texts.length := List.length_map ..
  rcases ht with rfl | ⟨e0, rfl⟩
  rotate_left
  · (conv => whnf); repeat' ((first | intro g | refine Wit.mk _ (map_getE hx hxv rfl) ?_ | refine st ?_ | (first | refine b1 ?_ ?_ | refine b2 ?_ ?_ | refine Br.mk ?_ ?_) <;> intro hc | exact rfl) <;> conv => whnf)
    refine LoopS.by (fun (i : Nat) => ⟨[(0, .lit 4 (raw.map Kno.v)), (3, .sl 65 g65 0 ks.length), (4, vnat k), (5, .ptr 96 g 0 0), (6, vi 0)],
        [(65, ⟨g65, 4, true, false, some (ks.map Kno.v)⟩), (96, ⟨g, 4, false, false, some [.agg [vi x.var, vi x.lo, vi x.hi, .nils]]⟩)]⟩) (fun i => i = 0) (fun i => 0) 0 (by (refine ⟨?_, ?_⟩ <;> repeat' (first | exact True.intro | refine ai ?_ | refine And.intro ?_ ?_))) rfl ?_
    rintro i rfl
    (conv => whnf); repeat' ((first | intro g | refine Wit.mk _ (map_getE hx hxv rfl) ?_ | refine st ?_ | (first | refine b1 ?_ ?_ | refine b2 ?_ ?_ | refine Br.mk ?_ ?_) <;> intro hc | exact rfl) <;> conv => whnf)
    refine NxtS.mk (k + 1, ks ++ [⟨x.var, x.lo, x.hi, true, []⟩], g) (by first | omega | (dsimp only; omega)) ⟨by omega, by simp; omega, ?_⟩ (by (refine ⟨?_, ?_⟩ <;> repeat' (first | exact True.intro | refine ai ?_ | refine And.intro ?_ ?_)))
    intro y hy
    rcases List.mem_append.1 hy with h | h
    · exact hks y h
    · simp at h; subst h; exact ⟨by simp, by simp⟩
  (conv => whnf); repeat' ((first | intro g | refine Wit.mk _ (map_getE hx hxv rfl) ?_ | refine st ?_ | (first | refine b1 ?_ ?_ | refine b2 ?_ ?_ | refine Br.mk ?_ ?_) <;> intro hc | exact rfl) <;> conv => whnf)
  obtain ⟨g96, hg96⟩ : ∃ x, x = g := ⟨_, rfl⟩
  rw [← hg96]; clear hg96
  refine LoopS.by (fun ((i, L, ce) : Nat × List Str × Option Nat) => ⟨[(0, .lit 4 (raw.map Kno.v)), (3, .sl 65 g65 0 ks.length), (4, vnat k), (5, .ptr 96 g96 0 0), (6, vnat i)],
      match ce with
      | none => [(65, ⟨g65, 4, true, false, some (ks.map Kno.v)⟩), (96, ⟨g96, 4, false, false, some [.agg [vi x.var, vi x.lo, vi x.hi, .nils]]⟩)]
      | some g101 => [(65, ⟨g65, 4, true, false, some (ks.map Kno.v)⟩), (96, ⟨g96, 4, false, false, some [.agg [vi x.var, vi x.lo, vi x.hi, .sl 101 g101 0 L.length]]⟩), (101, ⟨g101, 1, true, false, some (L.map V.str)⟩)]⟩)
    (fun (i, L, ce) => i ≤ 5 ∧ L.length = i ∧ (∀ s ∈ L, s.length < 4611686018427387904) ∧ (ce = none → L = []) ∧ (L = [] → ce = none)) (fun (i, _, _) => 5 - i) (0, [], none) (by (refine ⟨?_, ?_⟩ <;> repeat' (first | exact True.intro | refine ai ?_ | refine And.intro ?_ ?_))) ⟨by simp, by simp, by simp, by simp, by simp⟩ ?_
  rintro ⟨i, L, ce⟩ ⟨hi5, hLi, hLs, hc1, hc2⟩
  try dsimp only at hi5 hLi hLs hc1 hc2
  have lmL : (L.map V.str).length = L.length := List.length_map ..
  by_cases hin : i < x.texts.length ∧ i < 5
  · obtain ⟨j1, j2⟩ := hin
    have hs : x.texts[i]? = some x.texts[i] := get_lt j1
    generalize x.texts[i] = s at hs
    have hsl := hxr.2 s (List.mem_of_getElem? hs)
    have hm0 : 0 ≤ (if (30 : Int) < ((s.length : Nat) : Int) then (30 : Int) else ((s.length : Nat) : Int)) := by split <;> omega
    have hm1 : (if (30 : Int) < ((s.length : Nat) : Int) then (30 : Int) else ((s.length : Nat) : Int)).toNat ≤ s.length := by split <;> omega
    have hWl : (List.take ((if (30 : Int) < ((s.length : Nat) : Int) then (30 : Int) else ((s.length : Nat) : Int)).toNat - 0) (List.drop 0 s)).length < 4611686018427387904 := by simp; omega
    have b1 : ((i : Nat) : Int) < ((x.texts.map V.str).length : Nat) := by omega
    cases ce with
    | none =>
      obtain rfl := hc1 rfl
      (conv => whnf); repeat' ((first | intro g | refine Need.mk (hm0) ?_ | refine Need.mk (⟨Nat.zero_le _, hm1⟩) ?_ | refine Wit.mk _ (map_getE hx hxv rfl) ?_ | refine Wit.mk _ (map_getE hs rfl rfl) ?_ | refine st ?_ | (first | refine b1 ?_ ?_ | refine b2 ?_ ?_ | refine Br.mk ?_ ?_) <;> intro hc | exact rfl) <;> conv => whnf)
      exact NxtS.mk (i + 1, [(List.take ((if (30 : Int) < ((s.length : Nat) : Int) then (30 : Int) else ((s.length : Nat) : Int)).toNat - 0) (List.drop 0 s))], some g) (by first | omega | (dsimp only; omega)) ⟨by omega, by simp at hLi ⊢; omega, by intro u hu; simp only [List.mem_singleton] at hu; subst hu; exact hWl, by simp, by simp⟩ (by (refine ⟨?_, ?_⟩ <;> repeat' (first | exact True.intro | refine ai ?_ | refine And.intro ?_ ?_)))
    | some g101 =>
      (conv => whnf); repeat' ((first | intro g | refine Need.mk (hm0) ?_ | refine Need.mk (⟨Nat.zero_le _, hm1⟩) ?_ | refine Wit.mk _ (map_getE hx hxv rfl) ?_ | refine Wit.mk _ (map_getE hs rfl rfl) ?_ | refine st ?_ | (first | refine b1 ?_ ?_ | refine b2 ?_ ?_ | refine Br.mk ?_ ?_) <;> intro hc | exact rfl) <;> conv => whnf)
      exact NxtS.mk (i + 1, L ++ [(List.take ((if (30 : Int) < ((s.length : Nat) : Int) then (30 : Int) else ((s.length : Nat) : Int)).toNat - 0) (List.drop 0 s))], some g) (by first | omega | (dsimp only; omega)) ⟨by omega, by simp only [List.length_append, List.length_cons, List.length_nil]; omega, by intro u hu; rcases List.mem_append.1 hu with h | h; exact hLs u h; simp only [List.mem_singleton] at h; subst h; exact hWl, by simp, by simp⟩ (by (refine ⟨?_, ?_⟩ <;> repeat' (first | exact True.intro | refine ai ?_ | refine And.intro ?_ ?_)))
  · by_cases j1 : i < x.texts.length
    · have j2 : ¬ i < 5 := fun h => hin ⟨j1, h⟩
      cases ce with
      | none =>
        obtain rfl := hc1 rfl
        simp at hLi; omega
      | some g101 =>
        (conv => whnf); repeat' ((first | intro g | refine Wit.mk _ (map_getE hx hxv rfl) ?_ | refine st ?_ | (first | refine b1 ?_ ?_ | refine b2 ?_ ?_ | refine Br.mk ?_ ?_) <;> intro hc | exact rfl) <;> conv => whnf)
        refine NxtS.mk (k + 1, ks ++ [⟨x.var, x.lo, x.hi, false, L⟩], g) (by first | omega | (dsimp only; omega)) ⟨by omega, by simp; omega, ?_⟩ (by simp only [List.map_append, List.map_cons, List.map_nil, Kno.v, slS_false]; (refine ⟨?_, ?_⟩ <;> repeat' (first | exact True.intro | refine ai ?_ | refine And.intro ?_ ?_)))
        intro y hy
        rcases List.mem_append.1 hy with h | h
        · exact hks y h
        · simp at h; subst h; exact ⟨by dsimp only; omega, hLs⟩
    · cases ce with
      | none =>
        obtain rfl := hc1 rfl
        (conv => whnf); repeat' ((first | intro g | refine Wit.mk _ (map_getE hx hxv rfl) ?_ | refine st ?_ | (first | refine b1 ?_ ?_ | refine b2 ?_ ?_ | refine Br.mk ?_ ?_) <;> intro hc | exact rfl) <;> conv => whnf)
        refine NxtS.mk (k + 1, ks ++ [⟨x.var, x.lo, x.hi, true, []⟩], g) (by first | omega | (dsimp only; omega)) ⟨by omega, by simp; omega, ?_⟩ (by (refine ⟨?_, ?_⟩ <;> repeat' (first | exact True.intro | refine ai ?_ | refine And.intro ?_ ?_)))
        intro y hy
        rcases List.mem_append.1 hy with h | h
        · exact hks y h
        · simp at h; subst h; exact ⟨by simp, by simp⟩
      | some g101 =>
        (conv => whnf); repeat' ((first | intro g | refine Wit.mk _ (map_getE hx hxv rfl) ?_ | refine st ?_ | (first | refine b1 ?_ ?_ | refine b2 ?_ ?_ | refine Br.mk ?_ ?_) <;> intro hc | exact rfl) <;> conv => whnf)
        refine NxtS.mk (k + 1, ks ++ [⟨x.var, x.lo, x.hi, false, L⟩], g) (by first | omega | (dsimp only; omega)) ⟨by omega, by simp; omega, ?_⟩ (by simp only [List.map_append, List.map_cons, List.map_nil, Kno.v, slS_false]; (refine ⟨?_, ?_⟩ <;> repeat' (first | exact True.intro | refine ai ?_ | refine And.intro ?_ ?_)))
        intro y hy
        rcases List.mem_append.1 hy with h | h
        · exact hks y h
        · simp at h; subst h; exact ⟨by dsimp only; omega, hLs⟩
end Go.AM
set_option maxRecDepth 20000
namespace Go.AM
theorem and3 (y : Int) : ∃ r : Nat, r < 4 ∧ IntKind.i64.wrap ((BitVec.ofInt IntKind.i64.bits y &&& BitVec.ofInt IntKind.i64.bits 3).toNat : Int) = (r : Int) := by
  have h : (BitVec.ofInt IntKind.i64.bits y &&& BitVec.ofInt IntKind.i64.bits 3).toNat ≤ 3 := by
    rw [BitVec.toNat_and]
    exact Nat.le_trans Nat.and_le_right (by decide)
  refine ⟨_, Nat.lt_succ_of_le h, wrap64 (by omega) (by omega)⟩
set_option maxHeartbeats 4000000 in
theorem about_ev (x : Envi) (hx : EnvOk x) {l : List Int} (hl : l.length < 9223372036854775808) : ∃ ks : List Kno, ks.length ≤ 9 ∧ (∀ k ∈ ks, KSmall k) ∧ Ev E 315 [x.v, .lit 1 (l.map vi)] ⟨.own 4 (ks.map Kno.v), []⟩ := by
  have key := Ev.of_s (R := fun r => ∃ ks : List Kno, ks.length ≤ 9 ∧ (∀ k ∈ ks, KSmall k) ∧ r = ⟨.own 4 (ks.map Kno.v), []⟩) E_315 (X_315 [x.v, .lit 1 (l.map vi)]) rfl ?_
  · obtain ⟨r, h1, ks, h2, h3, rfl⟩ := key
    exact ⟨ks, h2, h3, h1⟩
  have lm : (l.map vi).length = l.length := List.length_map ..
  have hxv : x.v = .agg [vi x.kind, .str x.cls, .str x.name, vi x.weight, vi x.level, .bool x.stairs, vi x.scale, vi x.hour, vi x.reader] := rfl
  have hrv := fun n h => rvar_ev x (n := n) h
  have hvs : ∀ v : Int, (x.val v).s.length < 100 := by
    intro v
    unfold Envi.val
    repeat' split
    all_goals first | exact hx.1 | exact hx.2 | simp [zeroVa]
  rw [hxv] at hrv ⊢
  (conv => whnf); repeat' ((first | intro g | refine st ?_ | (first | refine b1 ?_ ?_ | refine b2 ?_ ?_ | refine Br.mk ?_ ?_) <;> intro hc | exact rfl) <;> conv => whnf)
  rename_i g48 _
  refine LoopS.by (fun ((v, ks, g97) : Nat × List Kno × Nat) => ⟨[(1, .lit 1 (l.map vi)), (2, .ptr 48 g48 0 0), (5, .sl 97 g97 0 ks.length), (6, vi v)],
      [(48, ⟨g48, 9, false, false, some [.agg [vi x.kind, .str x.cls, .str x.name, vi x.weight, vi x.level, .bool x.stairs, vi x.scale, vi x.hour, vi x.reader]]⟩), (97, ⟨g97, 4, true, false, some (ks.map Kno.v)⟩)]⟩)
    (fun (v, ks, _) => 1 ≤ v ∧ v ≤ 10 ∧ ks.length < v ∧ ∀ k ∈ ks, KSmall k) (fun (v, _, _) => 10 - v) (1, [], g) (by (refine ⟨?_, ?_⟩ <;> repeat' (first | exact True.intro | refine ai ?_ | refine And.intro ?_ ?_))) ⟨by simp, by simp, by simp, by simp⟩ ?_
  rintro ⟨v, ks, g97⟩ ⟨hv1, hv10, hkv, hks⟩
  try dsimp only at hv1 hv10 hkv hks
  have lmk : (ks.map Kno.v).length = ks.length := List.length_map ..
  have hKp : V.arePure (ks.map Kno.v) = true := AM.pures Kno.pure ks
  have hKl : 0 + ks.length ≤ (ks.map Kno.v).length := by omega
  by_cases hlt : v ≤ 9 ∧ v ≤ l.length
  · obtain ⟨hv9, hvl⟩ := hlt
    have hn : l[v - 1]? = some l[v - 1] := get_lt (by omega)
    generalize l[v - 1] = n at hn
    have hw : IntKind.i64.wrap (((v : Nat) : Int) - 1) = ((v - 1 : Nat) : Int) := (wrap64 (by omega) (by omega)).trans (by omega)
    have hvn : ¬ (((v : Nat) : Int) < 1 ∨ 9 < ((v : Nat) : Int)) := by omega
    have hrv := hrv ((v : Nat) : Int) hvn
    have hvt : varT ((v : Nat) : Int) ≠ 0 := by
      rcases nine hvn with h | h | h | h | h | h | h | h | h <;> rw [h] <;> decide
    have hs := hvs ((v : Nat) : Int)
    have hnx : ∀ (ts : List Str) (lo hi : Int), ts.length ≤ 5 → (∀ s ∈ ts, s.length < 100) → ∀ k ∈ ks ++ [Kno.mk v lo hi false ts], KSmall k := by
      intro ts lo hi h1 h2 k hk
      rcases List.mem_append.1 hk with h | h
      · exact hks k h
      · simp at h; subst h
        exact ⟨h1, fun s hs => by have := h2 s hs; omega⟩
    have b1 : ((v : Nat) : Int) ≤ ((l.map vi).length : Nat) := by omega
    have b2 : 0 ≤ IntKind.i64.wrap (((v : Nat) : Int) - 1) := by rw [hw]; omega
    have b3 : IntKind.i64.wrap (((v : Nat) : Int) - 1) < ((l.map vi).length : Nat) := by rw [hw]; omega
    obtain ⟨r, hr4, hr⟩ := and3 (n.fdiv (2 ^ min (Int.toNat 2) IntKind.i64.bits))
    have hr0 : 0 ≤ IntKind.i64.wrap ((BitVec.ofInt IntKind.i64.bits (n.fdiv (2 ^ min (Int.toNat 2) IntKind.i64.bits)) &&& BitVec.ofInt IntKind.i64.bits 3).toNat : Int) := by rw [hr]; omega
    have hr6 : IntKind.i64.wrap ((BitVec.ofInt IntKind.i64.bits (n.fdiv (2 ^ min (Int.toNat 2) IntKind.i64.bits)) &&& BitVec.ofInt IntKind.i64.bits 3).toNat : Int) < 6 := by rw [hr]; omega
    obtain ⟨T, hT, hTl⟩ : ∃ T, texts6[r]? = some T ∧ T.length < 100 := by
      have hall : ∀ x ∈ texts6, x.length < 100 := by decide
      exact ⟨_, get_lt (by have : texts6.length = 6 := rfl; omega), hall _ (List.getElem_mem _)⟩
    have hnil : ([] : Str).length < 100 := by decide
    have h120 : ([120] : Str).length < 100 := by decide
    simp only [Va.v] at hrv
    generalize x.val ((v : Nat) : Int) = w at *
    obtain ⟨wt, wn, wb, ws⟩ := w
    dsimp only at hrv hs
    (conv => whnf); repeat' ((first | intro g | refine Need.mk (⟨hr0, rfl⟩) ?_ | refine Need.mk (⟨hr0, hr6⟩) ?_ | refine Need.mk (hr6) ?_ | refine Wit.mk _ (map_get hn hw) ?_ | refine Wit.mk _ (map_get hT hr) ?_ | refine CallS.mk _ (hrv) ?_ | refine CallS.mk _ (texts_ev) ?_ | refine st ?_ | (first | refine b1 ?_ ?_ | refine b2 ?_ ?_ | refine Br.mk ?_ ?_) <;> intro hc | exact rfl) <;> conv => whnf)
    · exact NxtS.mk (v + 1, ks, g97) (by first | omega | (dsimp only; omega)) ⟨by omega, by omega, by omega, hks⟩ (by (refine ⟨?_, ?_⟩ <;> repeat' (first | exact True.intro | refine ai ?_ | refine And.intro ?_ ?_)))
    · exact NxtS.mk (v + 1, ks ++ [⟨v, IntKind.i64.wrap (1 - IntKind.i64.wrap ((BitVec.ofInt IntKind.i64.bits (n.fdiv (2 ^ min (Int.toNat 2) IntKind.i64.bits)) &&& BitVec.ofInt IntKind.i64.bits 31).toNat : Int)), IntKind.i64.wrap (1 + IntKind.i64.wrap ((BitVec.ofInt IntKind.i64.bits (n.fdiv (2 ^ min (Int.toNat 7) IntKind.i64.bits)) &&& BitVec.ofInt IntKind.i64.bits 31).toNat : Int)), false, [T, ws, [120]]⟩], g) (by first | omega | (dsimp only; omega)) ⟨by omega, by omega, by simp only [List.length_append, List.length_cons, List.length_nil]; omega, hnx _ _ _ (by simp) (by intro s hs; simp only [List.mem_cons, List.not_mem_nil, or_false] at hs; (try rcases hs with rfl | rfl | rfl) <;> (try subst hs) <;> assumption)⟩ (by simp only [List.map_append, List.map_cons, List.map_nil, Kno.v, slS]; (refine ⟨?_, ?_⟩ <;> repeat' (first | exact True.intro | refine ai ?_ | refine And.intro ?_ ?_)))
    · exact NxtS.mk (v + 1, ks ++ [⟨v, IntKind.i64.wrap (1 - IntKind.i64.wrap ((BitVec.ofInt IntKind.i64.bits (n.fdiv (2 ^ min (Int.toNat 2) IntKind.i64.bits)) &&& BitVec.ofInt IntKind.i64.bits 31).toNat : Int)), 1, false, [ws, ws]⟩], g) (by first | omega | (dsimp only; omega)) ⟨by omega, by omega, by simp only [List.length_append, List.length_cons, List.length_nil]; omega, hnx _ _ _ (by simp) (by intro s hs; simp only [List.mem_cons, List.not_mem_nil, or_false] at hs; (try rcases hs with rfl | rfl | rfl) <;> (try subst hs) <;> assumption)⟩ (by simp only [List.map_append, List.map_cons, List.map_nil, Kno.v, slS]; (refine ⟨?_, ?_⟩ <;> repeat' (first | exact True.intro | refine ai ?_ | refine And.intro ?_ ?_)))
    · exact NxtS.mk (v + 1, ks ++ [⟨v, 1, 1, false, [ws]⟩], g) (by first | omega | (dsimp only; omega)) ⟨by omega, by omega, by simp only [List.length_append, List.length_cons, List.length_nil]; omega, hnx _ _ _ (by simp) (by intro s hs; simp only [List.mem_cons, List.not_mem_nil, or_false] at hs; (try rcases hs with rfl | rfl | rfl) <;> (try subst hs) <;> assumption)⟩ (by simp only [List.map_append, List.map_cons, List.map_nil, Kno.v, slS]; (refine ⟨?_, ?_⟩ <;> repeat' (first | exact True.intro | refine ai ?_ | refine And.intro ?_ ?_)))
    · exact NxtS.mk (v + 1, ks, g97) (by first | omega | (dsimp only; omega)) ⟨by omega, by omega, by omega, hks⟩ (by (refine ⟨?_, ?_⟩ <;> repeat' (first | exact True.intro | refine ai ?_ | refine And.intro ?_ ?_)))
    · exact NxtS.mk (v + 1, ks ++ [⟨v, IntKind.i64.wrap (wn - IntKind.i64.wrap ((BitVec.ofInt IntKind.i64.bits (n.fdiv (2 ^ min (Int.toNat 2) IntKind.i64.bits)) &&& BitVec.ofInt IntKind.i64.bits 31).toNat : Int)), IntKind.i64.wrap (wn + IntKind.i64.wrap ((BitVec.ofInt IntKind.i64.bits (n.fdiv (2 ^ min (Int.toNat 7) IntKind.i64.bits)) &&& BitVec.ofInt IntKind.i64.bits 31).toNat : Int)), false, [T, ws, [120]]⟩], g) (by first | omega | (dsimp only; omega)) ⟨by omega, by omega, by simp only [List.length_append, List.length_cons, List.length_nil]; omega, hnx _ _ _ (by simp) (by intro s hs; simp only [List.mem_cons, List.not_mem_nil, or_false] at hs; (try rcases hs with rfl | rfl | rfl) <;> (try subst hs) <;> assumption)⟩ (by simp only [List.map_append, List.map_cons, List.map_nil, Kno.v, slS]; (refine ⟨?_, ?_⟩ <;> repeat' (first | exact True.intro | refine ai ?_ | refine And.intro ?_ ?_)))
    · exact NxtS.mk (v + 1, ks ++ [⟨v, IntKind.i64.wrap (wn - IntKind.i64.wrap ((BitVec.ofInt IntKind.i64.bits (n.fdiv (2 ^ min (Int.toNat 2) IntKind.i64.bits)) &&& BitVec.ofInt IntKind.i64.bits 31).toNat : Int)), wn, false, [ws, ws]⟩], g) (by first | omega | (dsimp only; omega)) ⟨by omega, by omega, by simp only [List.length_append, List.length_cons, List.length_nil]; omega, hnx _ _ _ (by simp) (by intro s hs; simp only [List.mem_cons, List.not_mem_nil, or_false] at hs; (try rcases hs with rfl | rfl | rfl) <;> (try subst hs) <;> assumption)⟩ (by simp only [List.map_append, List.map_cons, List.map_nil, Kno.v, slS]; (refine ⟨?_, ?_⟩ <;> repeat' (first | exact True.intro | refine ai ?_ | refine And.intro ?_ ?_)))
    · exact NxtS.mk (v + 1, ks ++ [⟨v, wn, wn, false, [ws]⟩], g) (by first | omega | (dsimp only; omega)) ⟨by omega, by omega, by simp only [List.length_append, List.length_cons, List.length_nil]; omega, hnx _ _ _ (by simp) (by intro s hs; simp only [List.mem_cons, List.not_mem_nil, or_false] at hs; (try rcases hs with rfl | rfl | rfl) <;> (try subst hs) <;> assumption)⟩ (by simp only [List.map_append, List.map_cons, List.map_nil, Kno.v, slS]; (refine ⟨?_, ?_⟩ <;> repeat' (first | exact True.intro | refine ai ?_ | refine And.intro ?_ ?_)))
  · by_cases hv9 : v ≤ 9
    · have hvl : ¬ v ≤ l.length := fun h => hlt ⟨hv9, h⟩
      have b1 : ¬ ((v : Nat) : Int) ≤ ((l.map vi).length : Nat) := by omega
      (conv => whnf); repeat' ((first | intro g | refine Need.mk (⟨hKl, hKp⟩) ?_ | refine st ?_ | (first | refine b1 ?_ ?_ | refine b2 ?_ ?_ | refine Br.mk ?_ ?_) <;> intro hc | exact rfl) <;> conv => whnf)
      exact ⟨ks, by omega, hks, rfl⟩
    · (conv => whnf); repeat' ((first | intro g | refine Need.mk (⟨hKl, hKp⟩) ?_ | refine st ?_ | (first | refine b1 ?_ ?_ | refine b2 ?_ ?_ | refine Br.mk ?_ ?_) <;> intro hc | exact rfl) <;> conv => whnf)
      exact ⟨ks, by omega, hks, rfl⟩
end Go.AM
set_option maxRecDepth 20000
namespace Go.AM
set_option maxRecDepth 100000 in
theorem is0_k : isTrue (call E 1000 331 [.str [119, 101, 105, 103, 104, 116, 32, 43, 32, 51], .str [119, 101, 105, 103, 104, 116, 32, 43, 32, 51], vi (8), vi (12)]) = true := by kernel_rfl
theorem is0_ev : Ev E 331 [.str [119, 101, 105, 103, 104, 116, 32, 43, 32, 51], .str [119, 101, 105, 103, 104, 116, 32, 43, 32, 51], vi (8), vi (12)] ⟨.bool true, []⟩ := ⟨1000, isTrue_out is0_k⟩
set_option maxRecDepth 100000 in
theorem is1_k : isTrue (call E 1000 331 [.str [119, 101, 105, 103, 104, 116, 32, 60, 32, 49, 48], .str [116, 114, 117, 101], vi (1), vi (1)]) = true := by kernel_rfl
theorem is1_ev : Ev E 331 [.str [119, 101, 105, 103, 104, 116, 32, 60, 32, 49, 48], .str [116, 114, 117, 101], vi (1), vi (1)] ⟨.bool true, []⟩ := ⟨1000, isTrue_out is1_k⟩
set_option maxRecDepth 100000 in
theorem is2_k : isTrue (call E 1000 331 [.str [40, 99, 108, 97, 115, 115, 32, 61, 32, 34, 114, 111, 97, 100, 34, 41, 32, 111, 114, 32, 40, 115, 99, 97, 108, 101, 32, 60, 32, 57, 41], .str [115, 99, 97, 108, 101, 32, 60, 32, 57], vi (0), vi (1)]) = true := by kernel_rfl
theorem is2_ev : Ev E 331 [.str [40, 99, 108, 97, 115, 115, 32, 61, 32, 34, 114, 111, 97, 100, 34, 41, 32, 111, 114, 32, 40, 115, 99, 97, 108, 101, 32, 60, 32, 57, 41], .str [115, 99, 97, 108, 101, 32, 60, 32, 57], vi (0), vi (1)] ⟨.bool true, []⟩ := ⟨1000, isTrue_out is2_k⟩
set_option maxRecDepth 100000 in
theorem is3_k : isTrue (call E 1000 331 [.str [105, 102, 32, 115, 116, 97, 105, 114, 115, 32, 116, 104, 101, 110, 32, 49, 32, 101, 108, 115, 101, 32, 40, 119, 101, 105, 103, 104, 116, 32, 42, 32, 45, 50, 41], .str [119, 101, 105, 103, 104, 116, 32, 42, 32, 45, 50], vi (-18), vi (-10)]) = true := by kernel_rfl
theorem is3_ev : Ev E 331 [.str [105, 102, 32, 115, 116, 97, 105, 114, 115, 32, 116, 104, 101, 110, 32, 49, 32, 101, 108, 115, 101, 32, 40, 119, 101, 105, 103, 104, 116, 32, 42, 32, 45, 50, 41], .str [119, 101, 105, 103, 104, 116, 32, 42, 32, 45, 50], vi (-18), vi (-10)] ⟨.bool true, []⟩ := ⟨1000, isTrue_out is3_k⟩
set_option maxRecDepth 100000 in
theorem is4_k : isTrue (call E 1000 331 [.str [99, 108, 97, 115, 115, 32, 61, 32, 34, 116, 114, 101, 101, 34], .str [99, 108, 97, 115, 115, 32, 61, 32, 34, 116, 114, 101, 101, 34], vi (0), vi (1)]) = true := by kernel_rfl
theorem is4_ev : Ev E 331 [.str [99, 108, 97, 115, 115, 32, 61, 32, 34, 116, 114, 101, 101, 34], .str [99, 108, 97, 115, 115, 32, 61, 32, 34, 116, 114, 101, 101, 34], vi (0), vi (1)] ⟨.bool true, []⟩ := ⟨1000, isTrue_out is4_k⟩
set_option maxRecDepth 100000 in
theorem is5_k : isTrue (call E 1000 331 [.str [110, 97, 109, 101], .str [110, 97, 109, 101], vi (0), vi (-1)]) = true := by kernel_rfl
theorem is5_ev : Ev E 331 [.str [110, 97, 109, 101], .str [110, 97, 109, 101], vi (0), vi (-1)] ⟨.bool true, []⟩ := ⟨1000, isTrue_out is5_k⟩
def isR0 (r : Option Res) : Bool := match r with
  | some ⟨.bool true, []⟩ => true
  | _ => false
theorem isR0_out {r : Option Res} (h : isR0 r = true) : r = some ⟨.bool true, []⟩ := by
  unfold isR0 at h
  split at h
  · rfl
  · simp at h
set_option maxRecDepth 100000 in
theorem fi0_k : isR0 (call E 1000 322 [.agg [vi 0, .str [], .str [], vi 9, vi 0, .bool false, vi 0, vi 0, vi 0], .lit 4 [.agg [vi 4, vi 5, vi 9, .lit 1 []]]]) = true := by kernel_rfl
theorem fi0_ev : Ev E 322 [.agg [vi 0, .str [], .str [], vi 9, vi 0, .bool false, vi 0, vi 0, vi 0], .lit 4 [.agg [vi 4, vi 5, vi 9, .lit 1 []]]] ⟨.bool true, []⟩ := ⟨1000, isR0_out fi0_k⟩
def isR1 (r : Option Res) : Bool := match r with
  | some ⟨.bool false, []⟩ => true
  | _ => false
theorem isR1_out {r : Option Res} (h : isR1 r = true) : r = some ⟨.bool false, []⟩ := by
  unfold isR1 at h
  split at h
  · rfl
  · simp at h
set_option maxRecDepth 100000 in
theorem fi1_k : isR1 (call E 1000 322 [.agg [vi 0, .str [], .str [], vi 10, vi 0, .bool false, vi 0, vi 0, vi 0], .lit 4 [.agg [vi 4, vi 5, vi 9, .lit 1 []]]]) = true := by kernel_rfl
theorem fi1_ev : Ev E 322 [.agg [vi 0, .str [], .str [], vi 10, vi 0, .bool false, vi 0, vi 0, vi 0], .lit 4 [.agg [vi 4, vi 5, vi 9, .lit 1 []]]] ⟨.bool false, []⟩ := ⟨1000, isR1_out fi1_k⟩
theorem sanity_ev : Ev E 311 [] ⟨.bool true, []⟩ := by
  refine Ev.of_s' E_311 (X_311 _) rfl ?_
  (conv => whnf); repeat' ((first | intro g | refine CallS.mk _ (is0_ev) ?_ | refine CallS.mk _ (is1_ev) ?_ | refine CallS.mk _ (is2_ev) ?_ | refine CallS.mk _ (is3_ev) ?_ | refine CallS.mk _ (is4_ev) ?_ | refine CallS.mk _ (is5_ev) ?_ | refine CallS.mk _ (fi0_ev) ?_ | refine CallS.mk _ (fi1_ev) ?_ | refine st ?_ | (first | refine b1 ?_ ?_ | refine b2 ?_ ?_ | refine Br.mk ?_ ?_) <;> intro hc | exact rfl) <;> conv => whnf)
end Go.AM
