/-
  Texts of the proof, joined by program: PLawS3l. Own work.
-/
import Derived.Test.YtjmcpijpclfakaaVd
set_option linter.unusedSimpArgs false
set_option linter.unusedVariables false
set_option maxRecDepth 20000
namespace Go.AM
set_option maxHeartbeats 8000000 in
theorem law_s3l {l env kn : List Int} {more : List (List Int)} {raw ks : List Kno} {x : Envi} {z1 z2 : Nat} {lo hi : Int} {a1 b1 c1 d1 : Int} {e1 : Bool} {f1 : Str} {ys : List V} {a2 b2 c2 d2 : Int} {e2 : Bool} {f2 : Str} {zs : List V} (good : Envi → Bool)
    (hmore : more.length < 9223372036854775808)
    (hsan : Ev E 311 [] ⟨.bool true, []⟩) (hx : Ev E 312 [.lit 1 (env.map vi)] ⟨x.v, []⟩)
    (hab : Ev E 315 [x.v, .lit 1 (kn.map vi)] ⟨.own 4 (ks.map Kno.v), []⟩)
    (he1 : Ev E 313 [.lit 1 (l.map vi)] ⟨.agg [vi a1, vi b1, vi c1, vi d1, .bool e1, .str f1, .lit 7 ys], []⟩)
    (h320 : Ev E 320 [.agg [vi a1, vi b1, vi c1, vi d1, .bool e1, .str f1, .lit 7 ys], .lit 4 (ks.map Kno.v)] ⟨.agg [vi a2, vi b2, vi c2, vi d2, .bool e2, .str f2, .lit 7 zs], []⟩) (h320' : Ev E 320 [.agg [vi a2, vi b2, vi c2, vi d2, .bool e2, .str f2, .lit 7 zs], .lit 4 (ks.map Kno.v)] ⟨.agg [vi a2, vi b2, vi c2, vi d2, .bool e2, .str f2, .lit 7 zs], []⟩)
    (h338 : Ev E 338 [.agg [vi a1, vi b1, vi c1, vi d1, .bool e1, .str f1, .lit 7 ys]] ⟨.tuple [vi 3, vi 0], []⟩) (h338' : Ev E 338 [.agg [vi a2, vi b2, vi c2, vi d2, .bool e2, .str f2, .lit 7 zs]] ⟨.tuple [vi 3, vi 0], []⟩)
    (h370 : Ev E 370 [.agg [vi a1, vi b1, vi c1, vi d1, .bool e1, .str f1, .lit 7 ys]] ⟨vnat z1, []⟩) (h370' : Ev E 370 [.agg [vi a2, vi b2, vi c2, vi d2, .bool e2, .str f2, .lit 7 zs]] ⟨vnat z2, []⟩) (hz : z2 ≤ z1)
    (h443 : Ev E 443 [.agg [vi a2, vi b2, vi c2, vi d2, .bool e2, .str f2, .lit 7 zs], .agg [vi a2, vi b2, vi c2, vi d2, .bool e2, .str f2, .lit 7 zs]] ⟨.bool true, []⟩) (h322 : Ev E 322 [x.v, .lit 4 (ks.map Kno.v)] ⟨.bool true, []⟩)
    (h317 : Ev E 317 [.agg [vi a1, vi b1, vi c1, vi d1, .bool e1, .str f1, .lit 7 ys], .lit 4 (ks.map Kno.v)] ⟨.tuple [vi 0, vi 0, .bool false], []⟩)
    (hfit : ∀ y : Envi, Ev E 322 [y.v, .lit 4 (ks.map Kno.v)] ⟨.bool (good y), []⟩)
    (hev : ∀ y : Envi, good y = true → ∃ n : Str, Ev E 348 [.agg [vi a1, vi b1, vi c1, vi d1, .bool e1, .str f1, .lit 7 ys], y.v] ⟨.tuple [.agg [vi 3, vi 0, .bool false, .str n], vi 0], []⟩ ∧ Ev E 348 [.agg [vi a2, vi b2, vi c2, vi d2, .bool e2, .str f2, .lit 7 zs], y.v] ⟨.tuple [.agg [vi 3, vi 0, .bool false, .str n], vi 0], []⟩)
    (hm : ∀ m ∈ more, ∃ y : Envi, Ev E 312 [.lit 1 (m.map vi)] ⟨y.v, []⟩) :
    Ev E 442 [.lit 1 (l.map vi), .agg [.lit 1 (env.map vi), .lit 1 (kn.map vi), .lit 4 (raw.map Kno.v)], .lit 1 (more.map fun m => V.lit 1 (m.map vi))] ⟨.bool true, []⟩ := by
  have hxv : x.v = .agg [vi x.kind, .str x.cls, .str x.name, vi x.weight, vi x.level, .bool x.stairs, vi x.scale, vi x.hour, vi x.reader] := rfl
  rw [hxv] at hx hab h322
  have lmm : (more.map fun m => V.lit 1 (m.map vi)).length = more.length := List.length_map ..
  have hz' : ¬ ((z1 : Nat) : Int) < ((z2 : Nat) : Int) := by omega
  refine Ev.of_s' E_442 (X_442 _) rfl ?_
  (conv => whnf); repeat' ((first | intro g | refine CallS.mk _ (hsan) ?_ | refine CallS.mk _ (hx) ?_ | refine CallS.mk _ (he1) ?_ | refine CallS.mk _ (hab) ?_ | refine CallS.mk _ (h338) ?_ | refine CallS.mk _ (h370) ?_ | refine CallS.mk _ (h322) ?_ | refine CallS.mk _ (h317) ?_ | refine CallS.mk _ (h320) ?_ | refine CallS.mk _ (h320') ?_ | refine CallS.mk _ (h338') ?_ | refine CallS.mk _ (h370') ?_ | refine CallS.mk _ (h443) ?_ | refine st ?_ | (first | refine b1 ?_ ?_ | refine b2 ?_ ?_ | refine Br.mk ?_ ?_) <;> intro hc | exact rfl) <;> conv => whnf)
  rename_i g80 g144 g160 g192 g1408
  refine LoopS.by (fun ((i, L, g9) : Nat × List Envi × Nat) => ⟨[(2, .lit 1 (more.map fun m => V.lit 1 (m.map vi))), (7, .bool true), (8, .ptr 144 g144 0 0), (10, .lit 4 (ks.map Kno.v)), (11, .ptr 192 g192 0 0), (12, vi 3), (16, vi 0), (17, vi 0), (18, .bool false), (19, .sl 321 g9 0 L.length), (20, vnat i)], [(144, ⟨g144, 7, false, false, some [.agg [vi a1, vi b1, vi c1, vi d1, .bool e1, .str f1, .lit 7 ys]]⟩), (192, ⟨g192, 7, false, false, some [.agg [vi a2, vi b2, vi c2, vi d2, .bool e2, .str f2, .lit 7 zs]]⟩), (321, ⟨g9, 9, true, false, some (L.map Envi.v)⟩)]⟩)
    (fun (i, L, g9) => i ≤ 6 ∧ L.length = i + 1) (fun (i, L, g9) => 6 - i) (0, [x], g) (by (refine ⟨?_, ?_⟩ <;> repeat' (first | exact True.intro | refine ai ?_ | refine And.intro ?_ ?_))) ⟨by simp, by simp⟩ ?_
  rintro ⟨i, L, g9⟩ ⟨hi6, hL⟩
  try dsimp only at hi6 hL
  have lmL : (L.map Envi.v).length = L.length := List.length_map ..
  by_cases hlt : i < more.length ∧ i < 6
  · obtain ⟨h1, h2⟩ := hlt
    have hmx : more[i]? = some more[i] := get_lt h1
    obtain ⟨y, hy⟩ := hm more[i] (List.mem_of_getElem? hmx)
    generalize more[i] = m at *
    clear hm hev hfit hsan hx hab he1 h320 h320' h338 h338' h370 h370' h443 h322 h317
    have hyv : y.v = .agg [vi y.kind, .str y.cls, .str y.name, vi y.weight, vi y.level, .bool y.stairs, vi y.scale, vi y.hour, vi y.reader] := rfl
    rw [hyv] at hy
    (conv => whnf); repeat' ((first | intro g | refine Wit.mk _ (map_getE hmx rfl rfl) ?_ | refine CallS.mk _ (hy) ?_ | refine st ?_ | (first | refine b1 ?_ ?_ | refine b2 ?_ ?_ | refine Br.mk ?_ ?_) <;> intro hc | exact rfl) <;> conv => whnf)
    exact NxtS.mk (i + 1, L ++ [y], g) (by first | omega | (dsimp only; omega)) ⟨by omega, by simp; omega⟩ (by simp only [List.map_append, List.map_cons, List.map_nil, List.length_append, List.length_cons, List.length_nil, hyv]; (refine ⟨?_, ?_⟩ <;> repeat' (first | exact True.intro | refine ai ?_ | refine And.intro ?_ ?_)))
  · have hend : ¬ (((i : Nat) : Int) < ((more.length : Nat) : Int)) ∨ ¬ (((i : Nat) : Int) < 6) := by omega
    clear hm hsan hx hab he1 h320 h320' h338 h338' h370 h370' h443 h322 h317
    by_cases h1 : i < more.length
    all_goals
      (conv => whnf); repeat' ((first | intro g | refine st ?_ | (first | refine b1 ?_ ?_ | refine b2 ?_ ?_ | refine Br.mk ?_ ?_) <;> intro hc | exact rfl) <;> conv => whnf)
      refine LoopS.by (fun (j : Nat) => ⟨[(7, .bool true), (8, .ptr 144 g144 0 0), (10, .lit 4 (ks.map Kno.v)), (11, .ptr 192 g192 0 0), (12, vi 3), (16, vi 0), (17, vi 0), (18, .bool false), (106, .sl 321 g9 0 L.length), (107, vnat L.length), (108, vnat j)], [(144, ⟨g144, 7, false, false, some [.agg [vi a1, vi b1, vi c1, vi d1, .bool e1, .str f1, .lit 7 ys]]⟩), (192, ⟨g192, 7, false, false, some [.agg [vi a2, vi b2, vi c2, vi d2, .bool e2, .str f2, .lit 7 zs]]⟩), (321, ⟨g9, 9, true, false, some (L.map Envi.v)⟩)]⟩)
        (fun j => j ≤ L.length) (fun j => L.length - j) 0 (by (refine ⟨?_, ?_⟩ <;> repeat' (first | exact True.intro | refine ai ?_ | refine And.intro ?_ ?_))) (by simp) ?_
      intro j hj
      by_cases hjl : j < L.length
      · obtain ⟨y, hy⟩ : ∃ y, L[j]? = some y := ⟨_, get_lt hjl⟩
        have hf := hfit y
        have hv := hev y
        have hyv : y.v = .agg [vi y.kind, .str y.cls, .str y.name, vi y.weight, vi y.level, .bool y.stairs, vi y.scale, vi y.hour, vi y.reader] := rfl
        rw [hyv] at hf hv
        clear hfit hev
        cases hg : good y with
        | false =>
          rw [hg] at hf
          clear hv
          (conv => whnf); repeat' ((first | intro g | refine Wit.mk _ (map_getE hy hyv rfl) ?_ | refine CallS.mk _ (hf) ?_ | refine st ?_ | (first | refine b1 ?_ ?_ | refine b2 ?_ ?_ | refine Br.mk ?_ ?_) <;> intro hc | exact rfl) <;> conv => whnf)
          exact NxtS.mk (j + 1) (by first | omega | (dsimp only; omega)) (by first | omega | (dsimp only; omega)) (by (refine ⟨?_, ?_⟩ <;> repeat' (first | exact True.intro | refine ai ?_ | refine And.intro ?_ ?_)))
        | true =>
          rw [hg] at hf
          obtain ⟨n, k1, k2⟩ := hv hg
          clear hv hg
          have hnn : n = n := rfl
          (conv => whnf); repeat' ((first | intro g | refine Wit.mk _ (map_getE hy hyv rfl) ?_ | refine CallS.mk _ (hf) ?_ | refine CallS.mk _ (k1) ?_ | refine CallS.mk _ (k2) ?_ | refine st ?_ | (first | refine b1 ?_ ?_ | refine b2 ?_ ?_ | refine Br.mk ?_ ?_) <;> intro hc | exact rfl) <;> conv => whnf)
          exact NxtS.mk (j + 1) (by first | omega | (dsimp only; omega)) (by first | omega | (dsimp only; omega)) (by (refine ⟨?_, ?_⟩ <;> repeat' (first | exact True.intro | refine ai ?_ | refine And.intro ?_ ?_)))
      · obtain rfl : j = L.length := by omega
        (conv => whnf); repeat' ((first | intro g | refine st ?_ | (first | refine b1 ?_ ?_ | refine b2 ?_ ?_ | refine Br.mk ?_ ?_) <;> intro hc | exact rfl) <;> conv => whnf)
end Go.AM
