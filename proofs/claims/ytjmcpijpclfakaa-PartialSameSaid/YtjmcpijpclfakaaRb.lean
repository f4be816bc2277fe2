/-
  Texts of the proof, joined by program: PAbo. Own work.
-/
import Derived.Test.YtjmcpijpclfakaaRa
import Derived.Test.YtjmcpijpclfakaaQa
import Derived.Test.YtjmcpijpclfakaaHa
import Derived.Test.YtjmcpijpclfakaaVa
set_option linter.unusedSimpArgs false
set_option linter.unusedVariables false
set_option maxRecDepth 20000
namespace Go.AM
theorem and3 (y : Int) : ∃ r : Nat, r < 4 ∧ IntKind.i64.wrap ((BitVec.ofInt IntKind.i64.bits y &&& BitVec.ofInt IntKind.i64.bits 3).toNat : Int) = (r : Int) := by
  have h : (BitVec.ofInt IntKind.i64.bits y &&& BitVec.ofInt IntKind.i64.bits 3).toNat ≤ 3 := by
    rw [BitVec.toNat_and]
    exact Nat.le_trans Nat.and_le_right (by decide)
  refine ⟨_, Nat.lt_succ_of_le h, wrap64 (by omega) (by omega)⟩
theorem and31 (y : Int) : ∃ r : Nat, r < 32 ∧ IntKind.i64.wrap ((BitVec.ofInt IntKind.i64.bits y &&& BitVec.ofInt IntKind.i64.bits 31).toNat : Int) = (r : Int) := by
  have h : (BitVec.ofInt IntKind.i64.bits y &&& BitVec.ofInt IntKind.i64.bits 31).toNat ≤ 31 := by
    rw [BitVec.toNat_and]
    exact Nat.le_trans Nat.and_le_right (by decide)
  refine ⟨_, Nat.lt_succ_of_le h, wrap64 (by omega) (by omega)⟩
theorem below_it {c : Int} (h1 : -1073741824 ≤ c) (h2 : c ≤ 1073741824) (y : Int) : IntKind.i64.wrap (c - IntKind.i64.wrap ((BitVec.ofInt IntKind.i64.bits y &&& BitVec.ofInt IntKind.i64.bits 31).toNat : Int)) ≤ c := by
  obtain ⟨r, hr, e⟩ := and31 y
  rw [e, wrap64 (by omega) (by omega)]
  omega
theorem above_it {c : Int} (h1 : -1073741824 ≤ c) (h2 : c ≤ 1073741824) (y : Int) : c ≤ IntKind.i64.wrap (c + IntKind.i64.wrap ((BitVec.ofInt IntKind.i64.bits y &&& BitVec.ofInt IntKind.i64.bits 31).toNat : Int)) := by
  obtain ⟨r, hr, e⟩ := and31 y
  rw [e, wrap64 (by omega) (by omega)]
  omega
theorem fits_mk (x : Envi) (v : Int) (ts : List Str) (lo hi : Int) (h1 : (x.val v).s ∈ ts) (h2 : lo ≤ numV (x.val v)) (h3 : numV (x.val v) ≤ hi) : fitsK x ⟨v, lo, hi, false, ts⟩ = true := by
  unfold fitsK
  split
  · rfl
  · split
    · exact decide_eq_true h1
    · rw [Bool.not_eq_true', Bool.or_eq_false_iff]
      exact ⟨decide_eq_false (Int.not_lt.2 h2), decide_eq_false (Int.not_lt.2 h3)⟩
theorem val_n (x : Envi) (v : Int) : -1073741824 ≤ (x.val v).n ∧ (x.val v).n ≤ 1073741824 := by
  unfold Envi.val
  repeat' split
  all_goals first | exact ⟨lim_lo _, lim_hi _⟩ | exact ⟨Int.le_of_lt (by show (-1073741824 : Int) < 0; decide), Int.le_of_lt (by show (0 : Int) < 1073741824; decide)⟩
def KFits (x : Envi) (k : Kno) : Prop := KSmall k ∧ fitsK x k = true
set_option maxHeartbeats 4000000 in
theorem about_ev2 (x : Envi) (hx : EnvOk x) {l : List Int} (hl : l.length < 9223372036854775808) : ∃ ks : List Kno, ks.length ≤ 9 ∧ (∀ k ∈ ks, KFits x k) ∧ Ev E 315 [x.v, .lit 1 (l.map vi)] ⟨.own 4 (ks.map Kno.v), []⟩ := by
  have key := Ev.of_s (R := fun r => ∃ ks : List Kno, ks.length ≤ 9 ∧ (∀ k ∈ ks, KFits x k) ∧ r = ⟨.own 4 (ks.map Kno.v), []⟩) E_315 (X_315 [x.v, .lit 1 (l.map vi)]) rfl ?_
  · obtain ⟨r, h1, ks, h2, h3, rfl⟩ := key
    exact ⟨ks, h2, h3, h1⟩
  have lm : (l.map vi).length = l.length := List.length_map ..
  have hxv : x.v = .agg [vi x.kind, .str x.cls, .str x.name, vi x.weight, vi x.level, .bool x.stairs, vi x.scale, vi x.hour, vi x.reader] := rfl
  have hrv := fun n h => rvar_ev x (n := n) h
  have hvs : ∀ v : Int, (x.val v).s.length < 100 := by
    intro v
    unfold Envi.val
    repeat' split
    all_goals first | exact hx.1 | exact hx.2 | simp [zeroVa]
  rw [hxv] at hrv ⊢
  (conv => whnf); repeat' ((first | intro g | refine st ?_ | (first | refine b1 ?_ ?_ | refine b2 ?_ ?_ | refine Br.mk ?_ ?_) <;> intro hc | exact rfl) <;> conv => whnf)
  rename_i g48 _
  refine LoopS.by (fun ((v, ks, g97) : Nat × List Kno × Nat) => ⟨[(1, .lit 1 (l.map vi)), (2, .ptr 48 g48 0 0), (5, .sl 97 g97 0 ks.length), (6, vi v)],
      [(48, ⟨g48, 9, false, false, some [.agg [vi x.kind, .str x.cls, .str x.name, vi x.weight, vi x.level, .bool x.stairs, vi x.scale, vi x.hour, vi x.reader]]⟩), (97, ⟨g97, 4, true, false, some (ks.map Kno.v)⟩)]⟩)
    (fun (v, ks, _) => 1 ≤ v ∧ v ≤ 10 ∧ ks.length < v ∧ ∀ k ∈ ks, KFits x k) (fun (v, _, _) => 10 - v) (1, [], g) (by (refine ⟨?_, ?_⟩ <;> repeat' (first | exact True.intro | refine ai ?_ | refine And.intro ?_ ?_))) ⟨by simp, by simp, by simp, by simp⟩ ?_
  rintro ⟨v, ks, g97⟩ ⟨hv1, hv10, hkv, hks⟩
  try dsimp only at hv1 hv10 hkv hks
  have lmk : (ks.map Kno.v).length = ks.length := List.length_map ..
  have hKp : V.arePure (ks.map Kno.v) = true := AM.pures Kno.pure ks
  have hKl : 0 + ks.length ≤ (ks.map Kno.v).length := by omega
  by_cases hlt : v ≤ 9 ∧ v ≤ l.length
  · obtain ⟨hv9, hvl⟩ := hlt
    have hn : l[v - 1]? = some l[v - 1] := get_lt (by omega)
    generalize l[v - 1] = n at hn
    have hw : IntKind.i64.wrap (((v : Nat) : Int) - 1) = ((v - 1 : Nat) : Int) := (wrap64 (by omega) (by omega)).trans (by omega)
    have hvn : ¬ (((v : Nat) : Int) < 1 ∨ 9 < ((v : Nat) : Int)) := by omega
    have hrv := hrv ((v : Nat) : Int) hvn
    have hvt : varT ((v : Nat) : Int) ≠ 0 := by
      rcases nine hvn with h | h | h | h | h | h | h | h | h <;> rw [h] <;> decide
    have hs := hvs ((v : Nat) : Int)
    have hfm := fun ts lo hi => fits_mk x ((v : Nat) : Int) ts lo hi
    have hvn9 := val_n x ((v : Nat) : Int)
    have hnx : ∀ (ts : List Str) (lo hi : Int), ts.length ≤ 5 → (∀ s ∈ ts, s.length < 100) → fitsK x ⟨((v : Nat) : Int), lo, hi, false, ts⟩ = true → ∀ k ∈ ks ++ [Kno.mk v lo hi false ts], KFits x k := by
      intro ts lo hi h1 h2 h3 k hk
      rcases List.mem_append.1 hk with h | h
      · exact hks k h
      · simp at h; subst h
        exact ⟨⟨h1, fun s hs => by have := h2 s hs; omega⟩, h3⟩
    have b1 : ((v : Nat) : Int) ≤ ((l.map vi).length : Nat) := by omega
    have b2 : 0 ≤ IntKind.i64.wrap (((v : Nat) : Int) - 1) := by rw [hw]; omega
    have b3 : IntKind.i64.wrap (((v : Nat) : Int) - 1) < ((l.map vi).length : Nat) := by rw [hw]; omega
    obtain ⟨r, hr4, hr⟩ := and3 (n.fdiv (2 ^ min (Int.toNat 2) IntKind.i64.bits))
    have hr0 : 0 ≤ IntKind.i64.wrap ((BitVec.ofInt IntKind.i64.bits (n.fdiv (2 ^ min (Int.toNat 2) IntKind.i64.bits)) &&& BitVec.ofInt IntKind.i64.bits 3).toNat : Int) := by rw [hr]; omega
    have hr6 : IntKind.i64.wrap ((BitVec.ofInt IntKind.i64.bits (n.fdiv (2 ^ min (Int.toNat 2) IntKind.i64.bits)) &&& BitVec.ofInt IntKind.i64.bits 3).toNat : Int) < 6 := by rw [hr]; omega
    obtain ⟨T, hT, hTl⟩ : ∃ T, texts6[r]? = some T ∧ T.length < 100 := by
      have hall : ∀ x ∈ texts6, x.length < 100 := by decide
      exact ⟨_, get_lt (by have : texts6.length = 6 := rfl; omega), hall _ (List.getElem_mem _)⟩
    have hnil : ([] : Str).length < 100 := by decide
    have h120 : ([120] : Str).length < 100 := by decide
    simp only [Va.v] at hrv
    generalize x.val ((v : Nat) : Int) = w at *
    obtain ⟨wt, wn, wb, ws⟩ := w
    dsimp only [numV] at hrv hs hfm hvn9
    cases wb <;> simp only [cond_true, cond_false] at hfm
    rotate_left
    all_goals (try simp only [cond_true, cond_false] at hrv)
    all_goals (conv => whnf); repeat' ((first | intro g | refine Need.mk (⟨hr0, rfl⟩) ?_ | refine Need.mk (⟨hr0, hr6⟩) ?_ | refine Need.mk (hr6) ?_ | refine Wit.mk _ (map_get hn hw) ?_ | refine Wit.mk _ (map_get hT hr) ?_ | refine CallS.mk _ (hrv) ?_ | refine CallS.mk _ (texts_ev) ?_ | refine st ?_ | (first | refine b1 ?_ ?_ | refine b2 ?_ ?_ | refine Br.mk ?_ ?_) <;> intro hc | exact rfl) <;> conv => whnf)
    · exact NxtS.mk (v + 1, ks, g97) (by first | omega | (dsimp only; omega)) ⟨by omega, by omega, by omega, hks⟩ (by (refine ⟨?_, ?_⟩ <;> repeat' (first | exact True.intro | refine ai ?_ | refine And.intro ?_ ?_)))
    · exact NxtS.mk (v + 1, ks ++ [⟨v, IntKind.i64.wrap (1 - IntKind.i64.wrap ((BitVec.ofInt IntKind.i64.bits (n.fdiv (2 ^ min (Int.toNat 2) IntKind.i64.bits)) &&& BitVec.ofInt IntKind.i64.bits 31).toNat : Int)), IntKind.i64.wrap (1 + IntKind.i64.wrap ((BitVec.ofInt IntKind.i64.bits (n.fdiv (2 ^ min (Int.toNat 7) IntKind.i64.bits)) &&& BitVec.ofInt IntKind.i64.bits 31).toNat : Int)), false, [T, ws, [120]]⟩], g) (by first | omega | (dsimp only; omega)) ⟨by omega, by omega, by simp only [List.length_append, List.length_cons, List.length_nil]; omega, hnx _ _ _ (by simp) (by intro s hs; simp only [List.mem_cons, List.not_mem_nil, or_false] at hs; (try rcases hs with rfl | rfl | rfl) <;> (try subst hs) <;> assumption) (hfm _ _ _ (by simp) (below_it (by decide) (by decide) _) (above_it (by decide) (by decide) _))⟩ (by simp only [List.map_append, List.map_cons, List.map_nil, Kno.v, slS]; (refine ⟨?_, ?_⟩ <;> repeat' (first | exact True.intro | refine ai ?_ | refine And.intro ?_ ?_)))
    · exact NxtS.mk (v + 1, ks ++ [⟨v, IntKind.i64.wrap (1 - IntKind.i64.wrap ((BitVec.ofInt IntKind.i64.bits (n.fdiv (2 ^ min (Int.toNat 2) IntKind.i64.bits)) &&& BitVec.ofInt IntKind.i64.bits 31).toNat : Int)), 1, false, [ws, ws]⟩], g) (by first | omega | (dsimp only; omega)) ⟨by omega, by omega, by simp only [List.length_append, List.length_cons, List.length_nil]; omega, hnx _ _ _ (by simp) (by intro s hs; simp only [List.mem_cons, List.not_mem_nil, or_false] at hs; (try rcases hs with rfl | rfl | rfl) <;> (try subst hs) <;> assumption) (hfm _ _ _ (by simp) (below_it (by decide) (by decide) _) (Int.le_refl _))⟩ (by simp only [List.map_append, List.map_cons, List.map_nil, Kno.v, slS]; (refine ⟨?_, ?_⟩ <;> repeat' (first | exact True.intro | refine ai ?_ | refine And.intro ?_ ?_)))
    · exact NxtS.mk (v + 1, ks ++ [⟨v, 1, 1, false, [ws]⟩], g) (by first | omega | (dsimp only; omega)) ⟨by omega, by omega, by simp only [List.length_append, List.length_cons, List.length_nil]; omega, hnx _ _ _ (by simp) (by intro s hs; simp only [List.mem_cons, List.not_mem_nil, or_false] at hs; (try rcases hs with rfl | rfl | rfl) <;> (try subst hs) <;> assumption) (hfm _ _ _ (by simp) (Int.le_refl _) (Int.le_refl _))⟩ (by simp only [List.map_append, List.map_cons, List.map_nil, Kno.v, slS]; (refine ⟨?_, ?_⟩ <;> repeat' (first | exact True.intro | refine ai ?_ | refine And.intro ?_ ?_)))
    · exact NxtS.mk (v + 1, ks, g97) (by first | omega | (dsimp only; omega)) ⟨by omega, by omega, by omega, hks⟩ (by (refine ⟨?_, ?_⟩ <;> repeat' (first | exact True.intro | refine ai ?_ | refine And.intro ?_ ?_)))
    · exact NxtS.mk (v + 1, ks ++ [⟨v, IntKind.i64.wrap (wn - IntKind.i64.wrap ((BitVec.ofInt IntKind.i64.bits (n.fdiv (2 ^ min (Int.toNat 2) IntKind.i64.bits)) &&& BitVec.ofInt IntKind.i64.bits 31).toNat : Int)), IntKind.i64.wrap (wn + IntKind.i64.wrap ((BitVec.ofInt IntKind.i64.bits (n.fdiv (2 ^ min (Int.toNat 7) IntKind.i64.bits)) &&& BitVec.ofInt IntKind.i64.bits 31).toNat : Int)), false, [T, ws, [120]]⟩], g) (by first | omega | (dsimp only; omega)) ⟨by omega, by omega, by simp only [List.length_append, List.length_cons, List.length_nil]; omega, hnx _ _ _ (by simp) (by intro s hs; simp only [List.mem_cons, List.not_mem_nil, or_false] at hs; (try rcases hs with rfl | rfl | rfl) <;> (try subst hs) <;> assumption) (hfm _ _ _ (by simp) (below_it hvn9.1 hvn9.2 _) (above_it hvn9.1 hvn9.2 _))⟩ (by simp only [List.map_append, List.map_cons, List.map_nil, Kno.v, slS]; (refine ⟨?_, ?_⟩ <;> repeat' (first | exact True.intro | refine ai ?_ | refine And.intro ?_ ?_)))
    · exact NxtS.mk (v + 1, ks ++ [⟨v, IntKind.i64.wrap (wn - IntKind.i64.wrap ((BitVec.ofInt IntKind.i64.bits (n.fdiv (2 ^ min (Int.toNat 2) IntKind.i64.bits)) &&& BitVec.ofInt IntKind.i64.bits 31).toNat : Int)), wn, false, [ws, ws]⟩], g) (by first | omega | (dsimp only; omega)) ⟨by omega, by omega, by simp only [List.length_append, List.length_cons, List.length_nil]; omega, hnx _ _ _ (by simp) (by intro s hs; simp only [List.mem_cons, List.not_mem_nil, or_false] at hs; (try rcases hs with rfl | rfl | rfl) <;> (try subst hs) <;> assumption) (hfm _ _ _ (by simp) (below_it hvn9.1 hvn9.2 _) (Int.le_refl _))⟩ (by simp only [List.map_append, List.map_cons, List.map_nil, Kno.v, slS]; (refine ⟨?_, ?_⟩ <;> repeat' (first | exact True.intro | refine ai ?_ | refine And.intro ?_ ?_)))
    · exact NxtS.mk (v + 1, ks ++ [⟨v, wn, wn, false, [ws]⟩], g) (by first | omega | (dsimp only; omega)) ⟨by omega, by omega, by simp only [List.length_append, List.length_cons, List.length_nil]; omega, hnx _ _ _ (by simp) (by intro s hs; simp only [List.mem_cons, List.not_mem_nil, or_false] at hs; (try rcases hs with rfl | rfl | rfl) <;> (try subst hs) <;> assumption) (hfm _ _ _ (by simp) (Int.le_refl _) (Int.le_refl _))⟩ (by simp only [List.map_append, List.map_cons, List.map_nil, Kno.v, slS]; (refine ⟨?_, ?_⟩ <;> repeat' (first | exact True.intro | refine ai ?_ | refine And.intro ?_ ?_)))
  · by_cases hv9 : v ≤ 9
    · have hvl : ¬ v ≤ l.length := fun h => hlt ⟨hv9, h⟩
      have b1 : ¬ ((v : Nat) : Int) ≤ ((l.map vi).length : Nat) := by omega
      (conv => whnf); repeat' ((first | intro g | refine Need.mk (⟨hKl, hKp⟩) ?_ | refine st ?_ | (first | refine b1 ?_ ?_ | refine b2 ?_ ?_ | refine Br.mk ?_ ?_) <;> intro hc | exact rfl) <;> conv => whnf)
      exact ⟨ks, by omega, hks, rfl⟩
    · (conv => whnf); repeat' ((first | intro g | refine Need.mk (⟨hKl, hKp⟩) ?_ | refine st ?_ | (first | refine b1 ?_ ?_ | refine b2 ?_ ?_ | refine Br.mk ?_ ?_) <;> intro hc | exact rfl) <;> conv => whnf)
      exact ⟨ks, by omega, hks, rfl⟩
end Go.AM
