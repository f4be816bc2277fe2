import Derived.Test.YtnjbmkcbhnkggaaAmGatherF
import Derived.Test.YtnjbmkcbhnkggaaAmGatherL
import Derived.Test.YtnjbmkcbhnkggaaAmGatherG
import Derived.Test.YtnjbmkcbhnkggaaAmGatherC
import Derived.Test.YtnjbmkcbhnkggaaAmSan15
/-
  hachurelaw15: GatherNearest, the innermost loop. Own work.
-/
set_option linter.unusedSimpArgs false
namespace Go.AM

/-- the best so far -/
noncomputable def bestOf (qs : List Place) (p : Place) (j : Nat) : Option Place := match canList qs p j with
  | [] => none
  | x :: xs => some (minF (cmpFrom p) xs x)
noncomputable def bestN (qs : List Place) (p : Place) (j : Nat) : Int := match bestOf qs p j with
  | none => -1
  | some o => o.id

theorem minF_append {α : Type} (c : α → α → Int) : ∀ (l : List α) (x y : α), minF c (l ++ [y]) x = if c y (minF c l x) < 0 then y else minF c l x
  | [], x, y => rfl
  | z :: l, x, y => by
    have e : ∀ l', minF c (z :: l') x = minF c l' (if c z x < 0 then z else x) := fun _ => rfl
    rw [List.cons_append, e, e, minF_append c l _ y]

theorem canList_mem {qs : List Place} {p : Place} {j : Nat} {o : Place} (h : o ∈ canList qs p j) : ∃ i, i < j ∧ qs[i]? = some o := by
  rw [canList, List.mem_filterMap] at h
  obtain ⟨i, hi, h⟩ := h
  unfold canAt at h
  split at h
  · split at h
    · injection h with h; subst h
      exact ⟨i, by simpa using hi, by assumption⟩
    · simp at h
  · simp at h

theorem bestOf_mem {qs : List Place} {p : Place} {j : Nat} {o : Place} (h : bestOf qs p j = some o) : ∃ i, i < j ∧ qs[i]? = some o := by
  unfold bestOf at h
  split at h
  · simp at h
  · rename_i x xs hc
    injection h with h
    have := minF_mem (cmpFrom p) xs x
    rw [h, ← hc] at this
    exact canList_mem this

theorem bestOf_succ (qs : List Place) (p : Place) (j : Nat) : bestOf qs p (j + 1) = match canAt qs p j with
    | none => bestOf qs p j
    | some o => match bestOf qs p j with
      | none => some o
      | some b => if cmpFrom p o b < 0 then some o else some b := by
  unfold bestOf
  rw [canList_succ]
  cases hc : canAt qs p j with
  | none => simp
  | some o =>
    cases hl : canList qs p j with
    | nil => simp [minF]
    | cons x xs =>
      simp only [Option.toList_some, List.cons_append, minF_append]
      split <;> rfl

theorem cmpFrom_lt {p o b : Place} (h : b.id < o.id) : cmpFrom p o b < 0 ↔ sqP p o < sqP p b := by
  unfold cmpFrom orI cmpI
  repeat' split
  all_goals first | omega | simp_all <;> omega

/-- what stands over both loops of a district -/
def NearCtx (sv : V) (t : Int) (qs : List Place) (n : Nat) (d : Int) (all : V) (tv : V) (To : Obj → Obj → Prop) (σ : St) : Prop :=
  σ.T 0 = sv ∧ σ.T 1 = .int .u8 t ∧ σ.T 5 = .bool true ∧ σ.T 6 = .ptr 112 1 0 0 ∧ σ.T 10 = .ptr 176 1 0 0 ∧ σ.T 11 = .int .i64 d ∧ σ.T 12 = all ∧
    σ.O 112 = { gen := 1, sz := 4, arr := false, fz := false, es := some [.agg [.nils, .nils, .nils, .sl 355 1 0 n]] } ∧
    (∃ z, σ.O 355 = { gen := 1, sz := 7, arr := true, fz := z, es := some (qs.map Place.v) }) ∧
    σ.O 176 = { gen := 1, sz := 4, arr := false, fz := false, es := some [.agg [.nils, .nils, .nils, tv]] } ∧ To (σ.O 1184) (σ.O 1345)

def NearMid (i c : Nat) (p : Place) (n : Nat) (σ : St) : Prop :=
  σ.T 13 = .int .i64 c ∧ σ.T 14 = .int .i64 i ∧ σ.T 99 = .sl 355 1 0 n ∧ σ.T 100 = .int .i64 n ∧ σ.T 101 = .int .i64 i ∧
    ∃ g, σ.T 15 = .ptr 256 g 0 0 ∧ σ.O 256 = { gen := g, sz := 7, arr := false, fz := false, es := some [p.v] }

def NearIn (qs : List Place) (p : Place) (n j : Nat) (σ : St) : Prop :=
  σ.T 111 = .sl 355 1 0 n ∧ σ.T 112 = .int .i64 n ∧ σ.T 113 = .int .i64 j ∧ σ.T 16 = .int .i64 (bestN qs p j)

set_option maxHeartbeats 4000000 in
set_option maxRecDepth 100000 in
theorem near_in {sv : V} {t : Int} {qs : List Place} {n : Nat} {d : Int} {all tv : V} {To : Obj → Obj → Prop} {i c j : Nat} {p : Place} {σ : St}
    (hids : ∀ (i : Nat) (q : Place), qs[i]? = some q → q.id = i) (hn8 : n ≤ 8) (hq : qs.length = n) (hlt : j < n) (hpi : p.id = i)
    (h : NearCtx sv t qs n d all tv To σ) (hm : NearMid i c p n σ) (hi : NearIn qs p n j σ) :
    wpc E f4_l1 σ fun ex σ' => ex = .normal ∧ NearCtx sv t qs n d all tv To σ' ∧ NearMid i c p n σ' ∧ NearIn qs p n (j + 1) σ' := by
  obtain ⟨h0, h1, h5, h6, h10, h11, h12, h112, ⟨z, h355⟩, h176, hTo⟩ := h
  obtain ⟨h13, h14, h99, h100, h101, g, h15, h256⟩ := hm
  obtain ⟨h111, h112', h113, h16⟩ := hi
  obtain ⟨o, ho⟩ : ∃ o, qs[j]? = some o := ⟨_, List.getElem?_eq_getElem (by omega)⟩
  have ho' : (qs.map Place.v)[j]? = some o.v := by simp [ho]
  have hoid := hids _ _ ho
  have hfind := findP_ids hids (i := j) (by omega)
  have hw := wrap64 (show -9223372036854775808 ≤ (j : Int) + 1 by omega) (show (j : Int) + 1 ≤ 9223372036854775807 by omega)
  have hwinq : AM.window (qs.map Place.v) 0 n = qs.map Place.v := window_all (by simp [hq])
  have hlit : IsSl 7 (qs.map Place.v) (.lit 7 (qs.map Place.v)) := .inl rfl
  have hcast : ((j + 1 : Nat) : Int) = (j : Int) + 1 := rfl
  simp only [go_sem, Nat.reduceAdd, Nat.reduceSub, Nat.reduceMul, Nat.reduceEqDiff, Nat.reduceLT, Nat.reduceLeDiff, Nat.reduceBEq, reduceCtorEq, Int.reduceToNat, Int.reduceAdd, Int.reduceSub, Int.reduceMul, Int.reduceNeg, Int.reduceLE, Int.reduceLT, Int.reduceEq, ↓reduceIte, h0, h1, h5, h6, h10, h11, h12, h112, h355, h176, h13, h14, h99, h100, h101, h15, h256, h111, h112', h113, h16, hlt, ho', Place.v, List.length_map, hw, hwinq, hq, hcast, h0]
  refine wpc_drawn_of ?_
  simp only [go_sem, Nat.reduceAdd, Nat.reduceSub, Nat.reduceMul, Nat.reduceEqDiff, Nat.reduceLT, Nat.reduceLeDiff, Nat.reduceBEq, reduceCtorEq, Int.reduceToNat, Int.reduceAdd, Int.reduceSub, Int.reduceMul, Int.reduceNeg, Int.reduceLE, Int.reduceLT, Int.reduceEq, ↓reduceIte, doCall, wpa_call, wpf_call, prepare.eq_1, prepare.eq_2, prepare.eq_3, prepare.eq_4, prepare.eq_5, prepare.eq_6, prepare.eq_7, snap, snapV_pure, snapV.eq_2, snapV.eq_3, snapV.eq_4, snapV.eq_5, snapV.eq_6, snapV.eq_7, snapL.eq_1, snapL.eq_2, snapAll, E_8, f8, h6, h14, h112, h355, hwinq, hq, List.length_map, Place.pures]
  refine ⟨_, can_ev rfl rfl rfl hlit (by omega) i j, ?_⟩
  by_cases hc : canP qs i j = 0
  case neg =>
    have hcan : canAt qs p j = none := by simp [canAt, ho, hoid, hfind, hpi, hc]
    have hb : bestN qs p (j + 1) = bestN qs p j := by simp [bestN, bestOf_succ, hcan]
    simp only [go_sem, Nat.reduceAdd, Nat.reduceSub, Nat.reduceMul, Nat.reduceEqDiff, Nat.reduceLT, Nat.reduceLeDiff, Nat.reduceBEq, reduceCtorEq, Int.reduceToNat, Int.reduceAdd, Int.reduceSub, Int.reduceMul, Int.reduceNeg, Int.reduceLE, Int.reduceLT, Int.reduceEq, ↓reduceIte, h0, h1, h5, h6, h10, h11, h12, h112, h355, h176, h13, h14, h99, h100, h101, h15, h256, h111, h112', h113, h16, hlt, ho', Place.v, List.length_map, hw, hwinq, hq, hcast, hc]
    refine ⟨by rfl, ?_⟩
    exact ⟨⟨by simp only [go_sem, Nat.reduceAdd, Nat.reduceSub, Nat.reduceMul, Nat.reduceEqDiff, Nat.reduceLT, Nat.reduceLeDiff, Nat.reduceBEq, reduceCtorEq, Int.reduceToNat, Int.reduceAdd, Int.reduceSub, Int.reduceMul, Int.reduceNeg, Int.reduceLE, Int.reduceLT, Int.reduceEq, ↓reduceIte, h0], by simp only [go_sem, Nat.reduceAdd, Nat.reduceSub, Nat.reduceMul, Nat.reduceEqDiff, Nat.reduceLT, Nat.reduceLeDiff, Nat.reduceBEq, reduceCtorEq, Int.reduceToNat, Int.reduceAdd, Int.reduceSub, Int.reduceMul, Int.reduceNeg, Int.reduceLE, Int.reduceLT, Int.reduceEq, ↓reduceIte, h1], by simp only [go_sem, Nat.reduceAdd, Nat.reduceSub, Nat.reduceMul, Nat.reduceEqDiff, Nat.reduceLT, Nat.reduceLeDiff, Nat.reduceBEq, reduceCtorEq, Int.reduceToNat, Int.reduceAdd, Int.reduceSub, Int.reduceMul, Int.reduceNeg, Int.reduceLE, Int.reduceLT, Int.reduceEq, ↓reduceIte, h5], by simp only [go_sem, Nat.reduceAdd, Nat.reduceSub, Nat.reduceMul, Nat.reduceEqDiff, Nat.reduceLT, Nat.reduceLeDiff, Nat.reduceBEq, reduceCtorEq, Int.reduceToNat, Int.reduceAdd, Int.reduceSub, Int.reduceMul, Int.reduceNeg, Int.reduceLE, Int.reduceLT, Int.reduceEq, ↓reduceIte, h6], by simp only [go_sem, Nat.reduceAdd, Nat.reduceSub, Nat.reduceMul, Nat.reduceEqDiff, Nat.reduceLT, Nat.reduceLeDiff, Nat.reduceBEq, reduceCtorEq, Int.reduceToNat, Int.reduceAdd, Int.reduceSub, Int.reduceMul, Int.reduceNeg, Int.reduceLE, Int.reduceLT, Int.reduceEq, ↓reduceIte, h10], by simp only [go_sem, Nat.reduceAdd, Nat.reduceSub, Nat.reduceMul, Nat.reduceEqDiff, Nat.reduceLT, Nat.reduceLeDiff, Nat.reduceBEq, reduceCtorEq, Int.reduceToNat, Int.reduceAdd, Int.reduceSub, Int.reduceMul, Int.reduceNeg, Int.reduceLE, Int.reduceLT, Int.reduceEq, ↓reduceIte, h11], by simp only [go_sem, Nat.reduceAdd, Nat.reduceSub, Nat.reduceMul, Nat.reduceEqDiff, Nat.reduceLT, Nat.reduceLeDiff, Nat.reduceBEq, reduceCtorEq, Int.reduceToNat, Int.reduceAdd, Int.reduceSub, Int.reduceMul, Int.reduceNeg, Int.reduceLE, Int.reduceLT, Int.reduceEq, ↓reduceIte, h12], by simp only [go_sem, Nat.reduceAdd, Nat.reduceSub, Nat.reduceMul, Nat.reduceEqDiff, Nat.reduceLT, Nat.reduceLeDiff, Nat.reduceBEq, reduceCtorEq, Int.reduceToNat, Int.reduceAdd, Int.reduceSub, Int.reduceMul, Int.reduceNeg, Int.reduceLE, Int.reduceLT, Int.reduceEq, ↓reduceIte, h112], ⟨z, by simp only [go_sem, Nat.reduceAdd, Nat.reduceSub, Nat.reduceMul, Nat.reduceEqDiff, Nat.reduceLT, Nat.reduceLeDiff, Nat.reduceBEq, reduceCtorEq, Int.reduceToNat, Int.reduceAdd, Int.reduceSub, Int.reduceMul, Int.reduceNeg, Int.reduceLE, Int.reduceLT, Int.reduceEq, ↓reduceIte, h355]⟩, by simp only [go_sem, Nat.reduceAdd, Nat.reduceSub, Nat.reduceMul, Nat.reduceEqDiff, Nat.reduceLT, Nat.reduceLeDiff, Nat.reduceBEq, reduceCtorEq, Int.reduceToNat, Int.reduceAdd, Int.reduceSub, Int.reduceMul, Int.reduceNeg, Int.reduceLE, Int.reduceLT, Int.reduceEq, ↓reduceIte, h176], by simp only [go_sem, Nat.reduceAdd, Nat.reduceSub, Nat.reduceMul, Nat.reduceEqDiff, Nat.reduceLT, Nat.reduceLeDiff, Nat.reduceBEq, reduceCtorEq, Int.reduceToNat, Int.reduceAdd, Int.reduceSub, Int.reduceMul, Int.reduceNeg, Int.reduceLE, Int.reduceLT, Int.reduceEq, ↓reduceIte, hTo]⟩, ⟨by simp only [go_sem, Nat.reduceAdd, Nat.reduceSub, Nat.reduceMul, Nat.reduceEqDiff, Nat.reduceLT, Nat.reduceLeDiff, Nat.reduceBEq, reduceCtorEq, Int.reduceToNat, Int.reduceAdd, Int.reduceSub, Int.reduceMul, Int.reduceNeg, Int.reduceLE, Int.reduceLT, Int.reduceEq, ↓reduceIte, h13], by simp only [go_sem, Nat.reduceAdd, Nat.reduceSub, Nat.reduceMul, Nat.reduceEqDiff, Nat.reduceLT, Nat.reduceLeDiff, Nat.reduceBEq, reduceCtorEq, Int.reduceToNat, Int.reduceAdd, Int.reduceSub, Int.reduceMul, Int.reduceNeg, Int.reduceLE, Int.reduceLT, Int.reduceEq, ↓reduceIte, h14], by simp only [go_sem, Nat.reduceAdd, Nat.reduceSub, Nat.reduceMul, Nat.reduceEqDiff, Nat.reduceLT, Nat.reduceLeDiff, Nat.reduceBEq, reduceCtorEq, Int.reduceToNat, Int.reduceAdd, Int.reduceSub, Int.reduceMul, Int.reduceNeg, Int.reduceLE, Int.reduceLT, Int.reduceEq, ↓reduceIte, h99], by simp only [go_sem, Nat.reduceAdd, Nat.reduceSub, Nat.reduceMul, Nat.reduceEqDiff, Nat.reduceLT, Nat.reduceLeDiff, Nat.reduceBEq, reduceCtorEq, Int.reduceToNat, Int.reduceAdd, Int.reduceSub, Int.reduceMul, Int.reduceNeg, Int.reduceLE, Int.reduceLT, Int.reduceEq, ↓reduceIte, h100], by simp only [go_sem, Nat.reduceAdd, Nat.reduceSub, Nat.reduceMul, Nat.reduceEqDiff, Nat.reduceLT, Nat.reduceLeDiff, Nat.reduceBEq, reduceCtorEq, Int.reduceToNat, Int.reduceAdd, Int.reduceSub, Int.reduceMul, Int.reduceNeg, Int.reduceLE, Int.reduceLT, Int.reduceEq, ↓reduceIte, h101], g, by simp only [go_sem, Nat.reduceAdd, Nat.reduceSub, Nat.reduceMul, Nat.reduceEqDiff, Nat.reduceLT, Nat.reduceLeDiff, Nat.reduceBEq, reduceCtorEq, Int.reduceToNat, Int.reduceAdd, Int.reduceSub, Int.reduceMul, Int.reduceNeg, Int.reduceLE, Int.reduceLT, Int.reduceEq, ↓reduceIte, h15], by simp only [go_sem, Nat.reduceAdd, Nat.reduceSub, Nat.reduceMul, Nat.reduceEqDiff, Nat.reduceLT, Nat.reduceLeDiff, Nat.reduceBEq, reduceCtorEq, Int.reduceToNat, Int.reduceAdd, Int.reduceSub, Int.reduceMul, Int.reduceNeg, Int.reduceLE, Int.reduceLT, Int.reduceEq, ↓reduceIte, h256]⟩, by simp only [go_sem, Nat.reduceAdd, Nat.reduceSub, Nat.reduceMul, Nat.reduceEqDiff, Nat.reduceLT, Nat.reduceLeDiff, Nat.reduceBEq, reduceCtorEq, Int.reduceToNat, Int.reduceAdd, Int.reduceSub, Int.reduceMul, Int.reduceNeg, Int.reduceLE, Int.reduceLT, Int.reduceEq, ↓reduceIte, h111], by simp only [go_sem, Nat.reduceAdd, Nat.reduceSub, Nat.reduceMul, Nat.reduceEqDiff, Nat.reduceLT, Nat.reduceLeDiff, Nat.reduceBEq, reduceCtorEq, Int.reduceToNat, Int.reduceAdd, Int.reduceSub, Int.reduceMul, Int.reduceNeg, Int.reduceLE, Int.reduceLT, Int.reduceEq, ↓reduceIte, h112'], by simp only [go_sem, Nat.reduceAdd, Nat.reduceSub, Nat.reduceMul, Nat.reduceEqDiff, Nat.reduceLT, Nat.reduceLeDiff, Nat.reduceBEq, reduceCtorEq, Int.reduceToNat, Int.reduceAdd, Int.reduceSub, Int.reduceMul, Int.reduceNeg, Int.reduceLE, Int.reduceLT, Int.reduceEq, ↓reduceIte, hcast], by simp only [go_sem, Nat.reduceAdd, Nat.reduceSub, Nat.reduceMul, Nat.reduceEqDiff, Nat.reduceLT, Nat.reduceLeDiff, Nat.reduceBEq, reduceCtorEq, Int.reduceToNat, Int.reduceAdd, Int.reduceSub, Int.reduceMul, Int.reduceNeg, Int.reduceLE, Int.reduceLT, Int.reduceEq, ↓reduceIte, h16, hb]⟩
  have hcan : canAt qs p j = some o := by simp [canAt, ho, hoid, hfind, hpi, hc]
  cases hbo : bestOf qs p j with
  | none =>
    have hb : bestN qs p (j + 1) = j := by simp [bestN, bestOf_succ, hcan, hbo, hoid]
    have hb0 : bestN qs p j = -1 := by simp [bestN, hbo]
    simp only [go_sem, Nat.reduceAdd, Nat.reduceSub, Nat.reduceMul, Nat.reduceEqDiff, Nat.reduceLT, Nat.reduceLeDiff, Nat.reduceBEq, reduceCtorEq, Int.reduceToNat, Int.reduceAdd, Int.reduceSub, Int.reduceMul, Int.reduceNeg, Int.reduceLE, Int.reduceLT, Int.reduceEq, ↓reduceIte, h0, h1, h5, h6, h10, h11, h12, h112, h355, h176, h13, h14, h99, h100, h101, h15, h256, h111, h112', h113, h16, hlt, ho', Place.v, List.length_map, hw, hwinq, hq, hcast, hc, hb0]
    refine ⟨by rfl, ?_⟩
    exact ⟨⟨by simp only [go_sem, Nat.reduceAdd, Nat.reduceSub, Nat.reduceMul, Nat.reduceEqDiff, Nat.reduceLT, Nat.reduceLeDiff, Nat.reduceBEq, reduceCtorEq, Int.reduceToNat, Int.reduceAdd, Int.reduceSub, Int.reduceMul, Int.reduceNeg, Int.reduceLE, Int.reduceLT, Int.reduceEq, ↓reduceIte, h0], by simp only [go_sem, Nat.reduceAdd, Nat.reduceSub, Nat.reduceMul, Nat.reduceEqDiff, Nat.reduceLT, Nat.reduceLeDiff, Nat.reduceBEq, reduceCtorEq, Int.reduceToNat, Int.reduceAdd, Int.reduceSub, Int.reduceMul, Int.reduceNeg, Int.reduceLE, Int.reduceLT, Int.reduceEq, ↓reduceIte, h1], by simp only [go_sem, Nat.reduceAdd, Nat.reduceSub, Nat.reduceMul, Nat.reduceEqDiff, Nat.reduceLT, Nat.reduceLeDiff, Nat.reduceBEq, reduceCtorEq, Int.reduceToNat, Int.reduceAdd, Int.reduceSub, Int.reduceMul, Int.reduceNeg, Int.reduceLE, Int.reduceLT, Int.reduceEq, ↓reduceIte, h5], by simp only [go_sem, Nat.reduceAdd, Nat.reduceSub, Nat.reduceMul, Nat.reduceEqDiff, Nat.reduceLT, Nat.reduceLeDiff, Nat.reduceBEq, reduceCtorEq, Int.reduceToNat, Int.reduceAdd, Int.reduceSub, Int.reduceMul, Int.reduceNeg, Int.reduceLE, Int.reduceLT, Int.reduceEq, ↓reduceIte, h6], by simp only [go_sem, Nat.reduceAdd, Nat.reduceSub, Nat.reduceMul, Nat.reduceEqDiff, Nat.reduceLT, Nat.reduceLeDiff, Nat.reduceBEq, reduceCtorEq, Int.reduceToNat, Int.reduceAdd, Int.reduceSub, Int.reduceMul, Int.reduceNeg, Int.reduceLE, Int.reduceLT, Int.reduceEq, ↓reduceIte, h10], by simp only [go_sem, Nat.reduceAdd, Nat.reduceSub, Nat.reduceMul, Nat.reduceEqDiff, Nat.reduceLT, Nat.reduceLeDiff, Nat.reduceBEq, reduceCtorEq, Int.reduceToNat, Int.reduceAdd, Int.reduceSub, Int.reduceMul, Int.reduceNeg, Int.reduceLE, Int.reduceLT, Int.reduceEq, ↓reduceIte, h11], by simp only [go_sem, Nat.reduceAdd, Nat.reduceSub, Nat.reduceMul, Nat.reduceEqDiff, Nat.reduceLT, Nat.reduceLeDiff, Nat.reduceBEq, reduceCtorEq, Int.reduceToNat, Int.reduceAdd, Int.reduceSub, Int.reduceMul, Int.reduceNeg, Int.reduceLE, Int.reduceLT, Int.reduceEq, ↓reduceIte, h12], by simp only [go_sem, Nat.reduceAdd, Nat.reduceSub, Nat.reduceMul, Nat.reduceEqDiff, Nat.reduceLT, Nat.reduceLeDiff, Nat.reduceBEq, reduceCtorEq, Int.reduceToNat, Int.reduceAdd, Int.reduceSub, Int.reduceMul, Int.reduceNeg, Int.reduceLE, Int.reduceLT, Int.reduceEq, ↓reduceIte, h112], ⟨z, by simp only [go_sem, Nat.reduceAdd, Nat.reduceSub, Nat.reduceMul, Nat.reduceEqDiff, Nat.reduceLT, Nat.reduceLeDiff, Nat.reduceBEq, reduceCtorEq, Int.reduceToNat, Int.reduceAdd, Int.reduceSub, Int.reduceMul, Int.reduceNeg, Int.reduceLE, Int.reduceLT, Int.reduceEq, ↓reduceIte, h355]⟩, by simp only [go_sem, Nat.reduceAdd, Nat.reduceSub, Nat.reduceMul, Nat.reduceEqDiff, Nat.reduceLT, Nat.reduceLeDiff, Nat.reduceBEq, reduceCtorEq, Int.reduceToNat, Int.reduceAdd, Int.reduceSub, Int.reduceMul, Int.reduceNeg, Int.reduceLE, Int.reduceLT, Int.reduceEq, ↓reduceIte, h176], by simp only [go_sem, Nat.reduceAdd, Nat.reduceSub, Nat.reduceMul, Nat.reduceEqDiff, Nat.reduceLT, Nat.reduceLeDiff, Nat.reduceBEq, reduceCtorEq, Int.reduceToNat, Int.reduceAdd, Int.reduceSub, Int.reduceMul, Int.reduceNeg, Int.reduceLE, Int.reduceLT, Int.reduceEq, ↓reduceIte, hTo]⟩, ⟨by simp only [go_sem, Nat.reduceAdd, Nat.reduceSub, Nat.reduceMul, Nat.reduceEqDiff, Nat.reduceLT, Nat.reduceLeDiff, Nat.reduceBEq, reduceCtorEq, Int.reduceToNat, Int.reduceAdd, Int.reduceSub, Int.reduceMul, Int.reduceNeg, Int.reduceLE, Int.reduceLT, Int.reduceEq, ↓reduceIte, h13], by simp only [go_sem, Nat.reduceAdd, Nat.reduceSub, Nat.reduceMul, Nat.reduceEqDiff, Nat.reduceLT, Nat.reduceLeDiff, Nat.reduceBEq, reduceCtorEq, Int.reduceToNat, Int.reduceAdd, Int.reduceSub, Int.reduceMul, Int.reduceNeg, Int.reduceLE, Int.reduceLT, Int.reduceEq, ↓reduceIte, h14], by simp only [go_sem, Nat.reduceAdd, Nat.reduceSub, Nat.reduceMul, Nat.reduceEqDiff, Nat.reduceLT, Nat.reduceLeDiff, Nat.reduceBEq, reduceCtorEq, Int.reduceToNat, Int.reduceAdd, Int.reduceSub, Int.reduceMul, Int.reduceNeg, Int.reduceLE, Int.reduceLT, Int.reduceEq, ↓reduceIte, h99], by simp only [go_sem, Nat.reduceAdd, Nat.reduceSub, Nat.reduceMul, Nat.reduceEqDiff, Nat.reduceLT, Nat.reduceLeDiff, Nat.reduceBEq, reduceCtorEq, Int.reduceToNat, Int.reduceAdd, Int.reduceSub, Int.reduceMul, Int.reduceNeg, Int.reduceLE, Int.reduceLT, Int.reduceEq, ↓reduceIte, h100], by simp only [go_sem, Nat.reduceAdd, Nat.reduceSub, Nat.reduceMul, Nat.reduceEqDiff, Nat.reduceLT, Nat.reduceLeDiff, Nat.reduceBEq, reduceCtorEq, Int.reduceToNat, Int.reduceAdd, Int.reduceSub, Int.reduceMul, Int.reduceNeg, Int.reduceLE, Int.reduceLT, Int.reduceEq, ↓reduceIte, h101], g, by simp only [go_sem, Nat.reduceAdd, Nat.reduceSub, Nat.reduceMul, Nat.reduceEqDiff, Nat.reduceLT, Nat.reduceLeDiff, Nat.reduceBEq, reduceCtorEq, Int.reduceToNat, Int.reduceAdd, Int.reduceSub, Int.reduceMul, Int.reduceNeg, Int.reduceLE, Int.reduceLT, Int.reduceEq, ↓reduceIte, h15], by simp only [go_sem, Nat.reduceAdd, Nat.reduceSub, Nat.reduceMul, Nat.reduceEqDiff, Nat.reduceLT, Nat.reduceLeDiff, Nat.reduceBEq, reduceCtorEq, Int.reduceToNat, Int.reduceAdd, Int.reduceSub, Int.reduceMul, Int.reduceNeg, Int.reduceLE, Int.reduceLT, Int.reduceEq, ↓reduceIte, h256]⟩, by simp only [go_sem, Nat.reduceAdd, Nat.reduceSub, Nat.reduceMul, Nat.reduceEqDiff, Nat.reduceLT, Nat.reduceLeDiff, Nat.reduceBEq, reduceCtorEq, Int.reduceToNat, Int.reduceAdd, Int.reduceSub, Int.reduceMul, Int.reduceNeg, Int.reduceLE, Int.reduceLT, Int.reduceEq, ↓reduceIte, h111], by simp only [go_sem, Nat.reduceAdd, Nat.reduceSub, Nat.reduceMul, Nat.reduceEqDiff, Nat.reduceLT, Nat.reduceLeDiff, Nat.reduceBEq, reduceCtorEq, Int.reduceToNat, Int.reduceAdd, Int.reduceSub, Int.reduceMul, Int.reduceNeg, Int.reduceLE, Int.reduceLT, Int.reduceEq, ↓reduceIte, h112'], by simp only [go_sem, Nat.reduceAdd, Nat.reduceSub, Nat.reduceMul, Nat.reduceEqDiff, Nat.reduceLT, Nat.reduceLeDiff, Nat.reduceBEq, reduceCtorEq, Int.reduceToNat, Int.reduceAdd, Int.reduceSub, Int.reduceMul, Int.reduceNeg, Int.reduceLE, Int.reduceLT, Int.reduceEq, ↓reduceIte, hcast], by simp only [go_sem, Nat.reduceAdd, Nat.reduceSub, Nat.reduceMul, Nat.reduceEqDiff, Nat.reduceLT, Nat.reduceLeDiff, Nat.reduceBEq, reduceCtorEq, Int.reduceToNat, Int.reduceAdd, Int.reduceSub, Int.reduceMul, Int.reduceNeg, Int.reduceLE, Int.reduceLT, Int.reduceEq, ↓reduceIte, h16, hb, hb0]⟩
  | some b =>
    obtain ⟨ib, hib, hgb⟩ := bestOf_mem hbo
    have hbid := hids _ _ hgb
    have hb0 : bestN qs p j = ib := by simp [bestN, hbo, hbid]
    have hgb' : (qs.map Place.v)[ib]? = some b.v := by simp [hgb]
    have hibn : ib < n := by omega
    have hnn : ¬ (ib : Int) < 0 := by omega
    have hlq : cmpFrom p o b < 0 ↔ sqP p o < sqP p b := cmpFrom_lt (by omega)
    have hb := bestOf_succ qs p j
    rw [hcan, hbo] at hb
    simp only [go_sem, Nat.reduceAdd, Nat.reduceSub, Nat.reduceMul, Nat.reduceEqDiff, Nat.reduceLT, Nat.reduceLeDiff, Nat.reduceBEq, reduceCtorEq, Int.reduceToNat, Int.reduceAdd, Int.reduceSub, Int.reduceMul, Int.reduceNeg, Int.reduceLE, Int.reduceLT, Int.reduceEq, ↓reduceIte, h0, h1, h5, h6, h10, h11, h12, h112, h355, h176, h13, h14, h99, h100, h101, h15, h256, h111, h112', h113, h16, hlt, ho', Place.v, List.length_map, hw, hwinq, hq, hcast, hc, hb0, hnn]
    refine wpf_pure E_11 rfl (by rfl) (lawSquare_ev _ _ _ _) ?_
    simp only [go_sem, Nat.reduceAdd, Nat.reduceSub, Nat.reduceMul, Nat.reduceEqDiff, Nat.reduceLT, Nat.reduceLeDiff, Nat.reduceBEq, reduceCtorEq, Int.reduceToNat, Int.reduceAdd, Int.reduceSub, Int.reduceMul, Int.reduceNeg, Int.reduceLE, Int.reduceLT, Int.reduceEq, ↓reduceIte, h0, h1, h5, h6, h10, h11, h12, h112, h355, h176, h13, h14, h99, h100, h101, h15, h256, h111, h112', h113, h16, hlt, ho', Place.v, List.length_map, hw, hwinq, hq, hcast, hb0, hnn, hgb', hibn]
    refine wpf_pure E_11 rfl (by rfl) (lawSquare_ev _ _ _ _) ?_
    have e1 : sqV p.x p.y o.x o.y = sqP p o := rfl
    have e2 : sqV p.x p.y b.x b.y = sqP p b := rfl
    simp only [e1, e2]
    by_cases hlt2 : sqP p o < sqP p b
    · have hb : bestN qs p (j + 1) = j := by simp [bestN, hb, hlq.2 hlt2, hoid]
      simp only [go_sem, Nat.reduceAdd, Nat.reduceSub, Nat.reduceMul, Nat.reduceEqDiff, Nat.reduceLT, Nat.reduceLeDiff, Nat.reduceBEq, reduceCtorEq, Int.reduceToNat, Int.reduceAdd, Int.reduceSub, Int.reduceMul, Int.reduceNeg, Int.reduceLE, Int.reduceLT, Int.reduceEq, ↓reduceIte, h0, h1, h5, h6, h10, h11, h12, h112, h355, h176, h13, h14, h99, h100, h101, h15, h256, h111, h112', h113, h16, hlt, ho', Place.v, List.length_map, hw, hwinq, hq, hcast, hb0, hnn, e1, e2, hlt2]
      refine ⟨by rfl, ?_⟩
      exact ⟨⟨by simp only [go_sem, Nat.reduceAdd, Nat.reduceSub, Nat.reduceMul, Nat.reduceEqDiff, Nat.reduceLT, Nat.reduceLeDiff, Nat.reduceBEq, reduceCtorEq, Int.reduceToNat, Int.reduceAdd, Int.reduceSub, Int.reduceMul, Int.reduceNeg, Int.reduceLE, Int.reduceLT, Int.reduceEq, ↓reduceIte, h0], by simp only [go_sem, Nat.reduceAdd, Nat.reduceSub, Nat.reduceMul, Nat.reduceEqDiff, Nat.reduceLT, Nat.reduceLeDiff, Nat.reduceBEq, reduceCtorEq, Int.reduceToNat, Int.reduceAdd, Int.reduceSub, Int.reduceMul, Int.reduceNeg, Int.reduceLE, Int.reduceLT, Int.reduceEq, ↓reduceIte, h1], by simp only [go_sem, Nat.reduceAdd, Nat.reduceSub, Nat.reduceMul, Nat.reduceEqDiff, Nat.reduceLT, Nat.reduceLeDiff, Nat.reduceBEq, reduceCtorEq, Int.reduceToNat, Int.reduceAdd, Int.reduceSub, Int.reduceMul, Int.reduceNeg, Int.reduceLE, Int.reduceLT, Int.reduceEq, ↓reduceIte, h5], by simp only [go_sem, Nat.reduceAdd, Nat.reduceSub, Nat.reduceMul, Nat.reduceEqDiff, Nat.reduceLT, Nat.reduceLeDiff, Nat.reduceBEq, reduceCtorEq, Int.reduceToNat, Int.reduceAdd, Int.reduceSub, Int.reduceMul, Int.reduceNeg, Int.reduceLE, Int.reduceLT, Int.reduceEq, ↓reduceIte, h6], by simp only [go_sem, Nat.reduceAdd, Nat.reduceSub, Nat.reduceMul, Nat.reduceEqDiff, Nat.reduceLT, Nat.reduceLeDiff, Nat.reduceBEq, reduceCtorEq, Int.reduceToNat, Int.reduceAdd, Int.reduceSub, Int.reduceMul, Int.reduceNeg, Int.reduceLE, Int.reduceLT, Int.reduceEq, ↓reduceIte, h10], by simp only [go_sem, Nat.reduceAdd, Nat.reduceSub, Nat.reduceMul, Nat.reduceEqDiff, Nat.reduceLT, Nat.reduceLeDiff, Nat.reduceBEq, reduceCtorEq, Int.reduceToNat, Int.reduceAdd, Int.reduceSub, Int.reduceMul, Int.reduceNeg, Int.reduceLE, Int.reduceLT, Int.reduceEq, ↓reduceIte, h11], by simp only [go_sem, Nat.reduceAdd, Nat.reduceSub, Nat.reduceMul, Nat.reduceEqDiff, Nat.reduceLT, Nat.reduceLeDiff, Nat.reduceBEq, reduceCtorEq, Int.reduceToNat, Int.reduceAdd, Int.reduceSub, Int.reduceMul, Int.reduceNeg, Int.reduceLE, Int.reduceLT, Int.reduceEq, ↓reduceIte, h12], by simp only [go_sem, Nat.reduceAdd, Nat.reduceSub, Nat.reduceMul, Nat.reduceEqDiff, Nat.reduceLT, Nat.reduceLeDiff, Nat.reduceBEq, reduceCtorEq, Int.reduceToNat, Int.reduceAdd, Int.reduceSub, Int.reduceMul, Int.reduceNeg, Int.reduceLE, Int.reduceLT, Int.reduceEq, ↓reduceIte, h112], ⟨z, by simp only [go_sem, Nat.reduceAdd, Nat.reduceSub, Nat.reduceMul, Nat.reduceEqDiff, Nat.reduceLT, Nat.reduceLeDiff, Nat.reduceBEq, reduceCtorEq, Int.reduceToNat, Int.reduceAdd, Int.reduceSub, Int.reduceMul, Int.reduceNeg, Int.reduceLE, Int.reduceLT, Int.reduceEq, ↓reduceIte, h355]⟩, by simp only [go_sem, Nat.reduceAdd, Nat.reduceSub, Nat.reduceMul, Nat.reduceEqDiff, Nat.reduceLT, Nat.reduceLeDiff, Nat.reduceBEq, reduceCtorEq, Int.reduceToNat, Int.reduceAdd, Int.reduceSub, Int.reduceMul, Int.reduceNeg, Int.reduceLE, Int.reduceLT, Int.reduceEq, ↓reduceIte, h176], by simp only [go_sem, Nat.reduceAdd, Nat.reduceSub, Nat.reduceMul, Nat.reduceEqDiff, Nat.reduceLT, Nat.reduceLeDiff, Nat.reduceBEq, reduceCtorEq, Int.reduceToNat, Int.reduceAdd, Int.reduceSub, Int.reduceMul, Int.reduceNeg, Int.reduceLE, Int.reduceLT, Int.reduceEq, ↓reduceIte, hTo]⟩, ⟨by simp only [go_sem, Nat.reduceAdd, Nat.reduceSub, Nat.reduceMul, Nat.reduceEqDiff, Nat.reduceLT, Nat.reduceLeDiff, Nat.reduceBEq, reduceCtorEq, Int.reduceToNat, Int.reduceAdd, Int.reduceSub, Int.reduceMul, Int.reduceNeg, Int.reduceLE, Int.reduceLT, Int.reduceEq, ↓reduceIte, h13], by simp only [go_sem, Nat.reduceAdd, Nat.reduceSub, Nat.reduceMul, Nat.reduceEqDiff, Nat.reduceLT, Nat.reduceLeDiff, Nat.reduceBEq, reduceCtorEq, Int.reduceToNat, Int.reduceAdd, Int.reduceSub, Int.reduceMul, Int.reduceNeg, Int.reduceLE, Int.reduceLT, Int.reduceEq, ↓reduceIte, h14], by simp only [go_sem, Nat.reduceAdd, Nat.reduceSub, Nat.reduceMul, Nat.reduceEqDiff, Nat.reduceLT, Nat.reduceLeDiff, Nat.reduceBEq, reduceCtorEq, Int.reduceToNat, Int.reduceAdd, Int.reduceSub, Int.reduceMul, Int.reduceNeg, Int.reduceLE, Int.reduceLT, Int.reduceEq, ↓reduceIte, h99], by simp only [go_sem, Nat.reduceAdd, Nat.reduceSub, Nat.reduceMul, Nat.reduceEqDiff, Nat.reduceLT, Nat.reduceLeDiff, Nat.reduceBEq, reduceCtorEq, Int.reduceToNat, Int.reduceAdd, Int.reduceSub, Int.reduceMul, Int.reduceNeg, Int.reduceLE, Int.reduceLT, Int.reduceEq, ↓reduceIte, h100], by simp only [go_sem, Nat.reduceAdd, Nat.reduceSub, Nat.reduceMul, Nat.reduceEqDiff, Nat.reduceLT, Nat.reduceLeDiff, Nat.reduceBEq, reduceCtorEq, Int.reduceToNat, Int.reduceAdd, Int.reduceSub, Int.reduceMul, Int.reduceNeg, Int.reduceLE, Int.reduceLT, Int.reduceEq, ↓reduceIte, h101], g, by simp only [go_sem, Nat.reduceAdd, Nat.reduceSub, Nat.reduceMul, Nat.reduceEqDiff, Nat.reduceLT, Nat.reduceLeDiff, Nat.reduceBEq, reduceCtorEq, Int.reduceToNat, Int.reduceAdd, Int.reduceSub, Int.reduceMul, Int.reduceNeg, Int.reduceLE, Int.reduceLT, Int.reduceEq, ↓reduceIte, h15], by simp only [go_sem, Nat.reduceAdd, Nat.reduceSub, Nat.reduceMul, Nat.reduceEqDiff, Nat.reduceLT, Nat.reduceLeDiff, Nat.reduceBEq, reduceCtorEq, Int.reduceToNat, Int.reduceAdd, Int.reduceSub, Int.reduceMul, Int.reduceNeg, Int.reduceLE, Int.reduceLT, Int.reduceEq, ↓reduceIte, h256]⟩, by simp only [go_sem, Nat.reduceAdd, Nat.reduceSub, Nat.reduceMul, Nat.reduceEqDiff, Nat.reduceLT, Nat.reduceLeDiff, Nat.reduceBEq, reduceCtorEq, Int.reduceToNat, Int.reduceAdd, Int.reduceSub, Int.reduceMul, Int.reduceNeg, Int.reduceLE, Int.reduceLT, Int.reduceEq, ↓reduceIte, h111], by simp only [go_sem, Nat.reduceAdd, Nat.reduceSub, Nat.reduceMul, Nat.reduceEqDiff, Nat.reduceLT, Nat.reduceLeDiff, Nat.reduceBEq, reduceCtorEq, Int.reduceToNat, Int.reduceAdd, Int.reduceSub, Int.reduceMul, Int.reduceNeg, Int.reduceLE, Int.reduceLT, Int.reduceEq, ↓reduceIte, h112'], by simp only [go_sem, Nat.reduceAdd, Nat.reduceSub, Nat.reduceMul, Nat.reduceEqDiff, Nat.reduceLT, Nat.reduceLeDiff, Nat.reduceBEq, reduceCtorEq, Int.reduceToNat, Int.reduceAdd, Int.reduceSub, Int.reduceMul, Int.reduceNeg, Int.reduceLE, Int.reduceLT, Int.reduceEq, ↓reduceIte, hcast], by simp only [go_sem, Nat.reduceAdd, Nat.reduceSub, Nat.reduceMul, Nat.reduceEqDiff, Nat.reduceLT, Nat.reduceLeDiff, Nat.reduceBEq, reduceCtorEq, Int.reduceToNat, Int.reduceAdd, Int.reduceSub, Int.reduceMul, Int.reduceNeg, Int.reduceLE, Int.reduceLT, Int.reduceEq, ↓reduceIte, h16, hb, hb0]⟩
    · have hb : bestN qs p (j + 1) = ib := by
        have : ¬ cmpFrom p o b < 0 := fun h => hlt2 (hlq.1 h)
        simp [bestN, hb, this, hbid]
      simp only [go_sem, Nat.reduceAdd, Nat.reduceSub, Nat.reduceMul, Nat.reduceEqDiff, Nat.reduceLT, Nat.reduceLeDiff, Nat.reduceBEq, reduceCtorEq, Int.reduceToNat, Int.reduceAdd, Int.reduceSub, Int.reduceMul, Int.reduceNeg, Int.reduceLE, Int.reduceLT, Int.reduceEq, ↓reduceIte, h0, h1, h5, h6, h10, h11, h12, h112, h355, h176, h13, h14, h99, h100, h101, h15, h256, h111, h112', h113, h16, hlt, ho', Place.v, List.length_map, hw, hwinq, hq, hcast, hb0, hnn, e1, e2, hlt2]
      refine ⟨by rfl, ?_⟩
      exact ⟨⟨by simp only [go_sem, Nat.reduceAdd, Nat.reduceSub, Nat.reduceMul, Nat.reduceEqDiff, Nat.reduceLT, Nat.reduceLeDiff, Nat.reduceBEq, reduceCtorEq, Int.reduceToNat, Int.reduceAdd, Int.reduceSub, Int.reduceMul, Int.reduceNeg, Int.reduceLE, Int.reduceLT, Int.reduceEq, ↓reduceIte, h0], by simp only [go_sem, Nat.reduceAdd, Nat.reduceSub, Nat.reduceMul, Nat.reduceEqDiff, Nat.reduceLT, Nat.reduceLeDiff, Nat.reduceBEq, reduceCtorEq, Int.reduceToNat, Int.reduceAdd, Int.reduceSub, Int.reduceMul, Int.reduceNeg, Int.reduceLE, Int.reduceLT, Int.reduceEq, ↓reduceIte, h1], by simp only [go_sem, Nat.reduceAdd, Nat.reduceSub, Nat.reduceMul, Nat.reduceEqDiff, Nat.reduceLT, Nat.reduceLeDiff, Nat.reduceBEq, reduceCtorEq, Int.reduceToNat, Int.reduceAdd, Int.reduceSub, Int.reduceMul, Int.reduceNeg, Int.reduceLE, Int.reduceLT, Int.reduceEq, ↓reduceIte, h5], by simp only [go_sem, Nat.reduceAdd, Nat.reduceSub, Nat.reduceMul, Nat.reduceEqDiff, Nat.reduceLT, Nat.reduceLeDiff, Nat.reduceBEq, reduceCtorEq, Int.reduceToNat, Int.reduceAdd, Int.reduceSub, Int.reduceMul, Int.reduceNeg, Int.reduceLE, Int.reduceLT, Int.reduceEq, ↓reduceIte, h6], by simp only [go_sem, Nat.reduceAdd, Nat.reduceSub, Nat.reduceMul, Nat.reduceEqDiff, Nat.reduceLT, Nat.reduceLeDiff, Nat.reduceBEq, reduceCtorEq, Int.reduceToNat, Int.reduceAdd, Int.reduceSub, Int.reduceMul, Int.reduceNeg, Int.reduceLE, Int.reduceLT, Int.reduceEq, ↓reduceIte, h10], by simp only [go_sem, Nat.reduceAdd, Nat.reduceSub, Nat.reduceMul, Nat.reduceEqDiff, Nat.reduceLT, Nat.reduceLeDiff, Nat.reduceBEq, reduceCtorEq, Int.reduceToNat, Int.reduceAdd, Int.reduceSub, Int.reduceMul, Int.reduceNeg, Int.reduceLE, Int.reduceLT, Int.reduceEq, ↓reduceIte, h11], by simp only [go_sem, Nat.reduceAdd, Nat.reduceSub, Nat.reduceMul, Nat.reduceEqDiff, Nat.reduceLT, Nat.reduceLeDiff, Nat.reduceBEq, reduceCtorEq, Int.reduceToNat, Int.reduceAdd, Int.reduceSub, Int.reduceMul, Int.reduceNeg, Int.reduceLE, Int.reduceLT, Int.reduceEq, ↓reduceIte, h12], by simp only [go_sem, Nat.reduceAdd, Nat.reduceSub, Nat.reduceMul, Nat.reduceEqDiff, Nat.reduceLT, Nat.reduceLeDiff, Nat.reduceBEq, reduceCtorEq, Int.reduceToNat, Int.reduceAdd, Int.reduceSub, Int.reduceMul, Int.reduceNeg, Int.reduceLE, Int.reduceLT, Int.reduceEq, ↓reduceIte, h112], ⟨z, by simp only [go_sem, Nat.reduceAdd, Nat.reduceSub, Nat.reduceMul, Nat.reduceEqDiff, Nat.reduceLT, Nat.reduceLeDiff, Nat.reduceBEq, reduceCtorEq, Int.reduceToNat, Int.reduceAdd, Int.reduceSub, Int.reduceMul, Int.reduceNeg, Int.reduceLE, Int.reduceLT, Int.reduceEq, ↓reduceIte, h355]⟩, by simp only [go_sem, Nat.reduceAdd, Nat.reduceSub, Nat.reduceMul, Nat.reduceEqDiff, Nat.reduceLT, Nat.reduceLeDiff, Nat.reduceBEq, reduceCtorEq, Int.reduceToNat, Int.reduceAdd, Int.reduceSub, Int.reduceMul, Int.reduceNeg, Int.reduceLE, Int.reduceLT, Int.reduceEq, ↓reduceIte, h176], by simp only [go_sem, Nat.reduceAdd, Nat.reduceSub, Nat.reduceMul, Nat.reduceEqDiff, Nat.reduceLT, Nat.reduceLeDiff, Nat.reduceBEq, reduceCtorEq, Int.reduceToNat, Int.reduceAdd, Int.reduceSub, Int.reduceMul, Int.reduceNeg, Int.reduceLE, Int.reduceLT, Int.reduceEq, ↓reduceIte, hTo]⟩, ⟨by simp only [go_sem, Nat.reduceAdd, Nat.reduceSub, Nat.reduceMul, Nat.reduceEqDiff, Nat.reduceLT, Nat.reduceLeDiff, Nat.reduceBEq, reduceCtorEq, Int.reduceToNat, Int.reduceAdd, Int.reduceSub, Int.reduceMul, Int.reduceNeg, Int.reduceLE, Int.reduceLT, Int.reduceEq, ↓reduceIte, h13], by simp only [go_sem, Nat.reduceAdd, Nat.reduceSub, Nat.reduceMul, Nat.reduceEqDiff, Nat.reduceLT, Nat.reduceLeDiff, Nat.reduceBEq, reduceCtorEq, Int.reduceToNat, Int.reduceAdd, Int.reduceSub, Int.reduceMul, Int.reduceNeg, Int.reduceLE, Int.reduceLT, Int.reduceEq, ↓reduceIte, h14], by simp only [go_sem, Nat.reduceAdd, Nat.reduceSub, Nat.reduceMul, Nat.reduceEqDiff, Nat.reduceLT, Nat.reduceLeDiff, Nat.reduceBEq, reduceCtorEq, Int.reduceToNat, Int.reduceAdd, Int.reduceSub, Int.reduceMul, Int.reduceNeg, Int.reduceLE, Int.reduceLT, Int.reduceEq, ↓reduceIte, h99], by simp only [go_sem, Nat.reduceAdd, Nat.reduceSub, Nat.reduceMul, Nat.reduceEqDiff, Nat.reduceLT, Nat.reduceLeDiff, Nat.reduceBEq, reduceCtorEq, Int.reduceToNat, Int.reduceAdd, Int.reduceSub, Int.reduceMul, Int.reduceNeg, Int.reduceLE, Int.reduceLT, Int.reduceEq, ↓reduceIte, h100], by simp only [go_sem, Nat.reduceAdd, Nat.reduceSub, Nat.reduceMul, Nat.reduceEqDiff, Nat.reduceLT, Nat.reduceLeDiff, Nat.reduceBEq, reduceCtorEq, Int.reduceToNat, Int.reduceAdd, Int.reduceSub, Int.reduceMul, Int.reduceNeg, Int.reduceLE, Int.reduceLT, Int.reduceEq, ↓reduceIte, h101], g, by simp only [go_sem, Nat.reduceAdd, Nat.reduceSub, Nat.reduceMul, Nat.reduceEqDiff, Nat.reduceLT, Nat.reduceLeDiff, Nat.reduceBEq, reduceCtorEq, Int.reduceToNat, Int.reduceAdd, Int.reduceSub, Int.reduceMul, Int.reduceNeg, Int.reduceLE, Int.reduceLT, Int.reduceEq, ↓reduceIte, h15], by simp only [go_sem, Nat.reduceAdd, Nat.reduceSub, Nat.reduceMul, Nat.reduceEqDiff, Nat.reduceLT, Nat.reduceLeDiff, Nat.reduceBEq, reduceCtorEq, Int.reduceToNat, Int.reduceAdd, Int.reduceSub, Int.reduceMul, Int.reduceNeg, Int.reduceLE, Int.reduceLT, Int.reduceEq, ↓reduceIte, h256]⟩, by simp only [go_sem, Nat.reduceAdd, Nat.reduceSub, Nat.reduceMul, Nat.reduceEqDiff, Nat.reduceLT, Nat.reduceLeDiff, Nat.reduceBEq, reduceCtorEq, Int.reduceToNat, Int.reduceAdd, Int.reduceSub, Int.reduceMul, Int.reduceNeg, Int.reduceLE, Int.reduceLT, Int.reduceEq, ↓reduceIte, h111], by simp only [go_sem, Nat.reduceAdd, Nat.reduceSub, Nat.reduceMul, Nat.reduceEqDiff, Nat.reduceLT, Nat.reduceLeDiff, Nat.reduceBEq, reduceCtorEq, Int.reduceToNat, Int.reduceAdd, Int.reduceSub, Int.reduceMul, Int.reduceNeg, Int.reduceLE, Int.reduceLT, Int.reduceEq, ↓reduceIte, h112'], by simp only [go_sem, Nat.reduceAdd, Nat.reduceSub, Nat.reduceMul, Nat.reduceEqDiff, Nat.reduceLT, Nat.reduceLeDiff, Nat.reduceBEq, reduceCtorEq, Int.reduceToNat, Int.reduceAdd, Int.reduceSub, Int.reduceMul, Int.reduceNeg, Int.reduceLE, Int.reduceLT, Int.reduceEq, ↓reduceIte, hcast], by simp only [go_sem, Nat.reduceAdd, Nat.reduceSub, Nat.reduceMul, Nat.reduceEqDiff, Nat.reduceLT, Nat.reduceLeDiff, Nat.reduceBEq, reduceCtorEq, Int.reduceToNat, Int.reduceAdd, Int.reduceSub, Int.reduceMul, Int.reduceNeg, Int.reduceLE, Int.reduceLT, Int.reduceEq, ↓reduceIte, h16, hb, hb0]⟩
end Go.AM

/-
  hachurelaw15: GatherNearest, the loop over the places. Own work.
-/
set_option linter.unusedSimpArgs false
namespace Go.AM

def NearOut (i : Nat) (c : Nat) (n : Nat) (σ : St) : Prop :=
  σ.T 13 = .int .i64 c ∧ σ.T 99 = .sl 355 1 0 n ∧ σ.T 100 = .int .i64 n ∧ σ.T 101 = .int .i64 i

theorem evOf_best (qs : List Place) (p : Place) : evOf qs p = match bestOf qs p qs.length with
    | none => none
    | some o => some ⟨4, if 1 < costPP p o then costPP p o else 1, p.id, o.id, 0⟩ := by
  unfold evOf bestOf
  cases canList qs p qs.length <;> rfl

theorem evList_prefix (qs : List Place) (d : Int) (i : Nat) : ∀ n, i ≤ n → ∃ r, evList qs d n = evList qs d i ++ r := by
  intro n h
  induction n with
  | zero => obtain rfl : i = 0 := by omega
            exact ⟨[], by simp⟩
  | succ n ih =>
    by_cases e : i = n + 1
    · subst e; exact ⟨[], by simp⟩
    · obtain ⟨r, hr⟩ := ih (by omega)
      exact ⟨r ++ (evAt qs d n).toList, by rw [evList_succ, hr, List.append_assoc]⟩

theorem evList_get {qs : List Place} {d : Int} {i n : Nat} {e : Event} (h : i < n) (he : evAt qs d i = some e) : (evList qs d n)[(evList qs d i).length]? = some e := by
  obtain ⟨r, hr⟩ := evList_prefix qs d (i + 1) n h
  rw [hr, evList_succ, he]
  simp

set_option maxHeartbeats 4000000 in
set_option maxRecDepth 100000 in
theorem near_mid {sv : V} {t : Int} {qs : List Place} {n : Nat} {d : Int} {all tv : V} {To : Obj → Obj → Prop} {i : Nat} {σ : St}
    (hids : ∀ (i : Nat) (q : Place), qs[i]? = some q → q.id = i) (hn8 : n ≤ 8) (hq : qs.length = n) (hlt : i < n) (hall : IsSl 5 ((evList qs d n).map Event.v) all)
    (h : NearCtx sv t qs n d all tv To σ) (ho : NearOut i (evList qs d i).length n σ) :
    wpc E f4_l2 σ fun ex σ' => ex = .normal ∧ NearCtx sv t qs n d all tv To σ' ∧ NearOut (i + 1) (evList qs d (i + 1)).length n σ' := by
  obtain ⟨h0, h1, h5, h6, h10, h11, h12, h112, ⟨z, h355⟩, h176, hTo⟩ := h
  obtain ⟨h13, h99, h100, h101⟩ := ho
  obtain ⟨p, hp⟩ : ∃ p, qs[i]? = some p := ⟨_, List.getElem?_eq_getElem (by omega)⟩
  have hp' : (qs.map Place.v)[i]? = some p.v := by simp [hp]
  have hpid := hids _ _ hp
  have hfind := findP_ids hids (i := i) (by omega)
  have hw := wrap64 (show -9223372036854775808 ≤ (i : Int) + 1 by omega) (show (i : Int) + 1 ≤ 9223372036854775807 by omega)
  have hcast : ((i + 1 : Nat) : Int) = (i : Int) + 1 := rfl
  have hsucc := evList_succ qs d i
  by_cases hd : p.dist = d
  case neg =>
    have hev : evAt qs d i = none := by simp [evAt, hp, hd]
    rw [hev, Option.toList_none, List.append_nil] at hsucc
    have hc' := congrArg List.length hsucc
    simp only [go_sem, Nat.reduceAdd, Nat.reduceSub, Nat.reduceMul, Nat.reduceEqDiff, Nat.reduceLT, Nat.reduceLeDiff, Nat.reduceBEq, reduceCtorEq, Int.reduceToNat, Int.reduceAdd, Int.reduceSub, Int.reduceMul, Int.reduceNeg, Int.reduceLE, Int.reduceLT, Int.reduceEq, ↓reduceIte, h0, h1, h5, h6, h10, h11, h12, h112, h355, h176, h13, h99, h100, h101, hlt, hp', Place.v, List.length_map, hw, hq, hcast, hd]
    exact ⟨⟨by simp only [go_sem, Nat.reduceAdd, Nat.reduceSub, Nat.reduceMul, Nat.reduceEqDiff, Nat.reduceLT, Nat.reduceLeDiff, Nat.reduceBEq, reduceCtorEq, Int.reduceToNat, Int.reduceAdd, Int.reduceSub, Int.reduceMul, Int.reduceNeg, Int.reduceLE, Int.reduceLT, Int.reduceEq, ↓reduceIte, h0], by simp only [go_sem, Nat.reduceAdd, Nat.reduceSub, Nat.reduceMul, Nat.reduceEqDiff, Nat.reduceLT, Nat.reduceLeDiff, Nat.reduceBEq, reduceCtorEq, Int.reduceToNat, Int.reduceAdd, Int.reduceSub, Int.reduceMul, Int.reduceNeg, Int.reduceLE, Int.reduceLT, Int.reduceEq, ↓reduceIte, h1], by simp only [go_sem, Nat.reduceAdd, Nat.reduceSub, Nat.reduceMul, Nat.reduceEqDiff, Nat.reduceLT, Nat.reduceLeDiff, Nat.reduceBEq, reduceCtorEq, Int.reduceToNat, Int.reduceAdd, Int.reduceSub, Int.reduceMul, Int.reduceNeg, Int.reduceLE, Int.reduceLT, Int.reduceEq, ↓reduceIte, h5], by simp only [go_sem, Nat.reduceAdd, Nat.reduceSub, Nat.reduceMul, Nat.reduceEqDiff, Nat.reduceLT, Nat.reduceLeDiff, Nat.reduceBEq, reduceCtorEq, Int.reduceToNat, Int.reduceAdd, Int.reduceSub, Int.reduceMul, Int.reduceNeg, Int.reduceLE, Int.reduceLT, Int.reduceEq, ↓reduceIte, h6], by simp only [go_sem, Nat.reduceAdd, Nat.reduceSub, Nat.reduceMul, Nat.reduceEqDiff, Nat.reduceLT, Nat.reduceLeDiff, Nat.reduceBEq, reduceCtorEq, Int.reduceToNat, Int.reduceAdd, Int.reduceSub, Int.reduceMul, Int.reduceNeg, Int.reduceLE, Int.reduceLT, Int.reduceEq, ↓reduceIte, h10], by simp only [go_sem, Nat.reduceAdd, Nat.reduceSub, Nat.reduceMul, Nat.reduceEqDiff, Nat.reduceLT, Nat.reduceLeDiff, Nat.reduceBEq, reduceCtorEq, Int.reduceToNat, Int.reduceAdd, Int.reduceSub, Int.reduceMul, Int.reduceNeg, Int.reduceLE, Int.reduceLT, Int.reduceEq, ↓reduceIte, h11], by simp only [go_sem, Nat.reduceAdd, Nat.reduceSub, Nat.reduceMul, Nat.reduceEqDiff, Nat.reduceLT, Nat.reduceLeDiff, Nat.reduceBEq, reduceCtorEq, Int.reduceToNat, Int.reduceAdd, Int.reduceSub, Int.reduceMul, Int.reduceNeg, Int.reduceLE, Int.reduceLT, Int.reduceEq, ↓reduceIte, h12], by simp only [go_sem, Nat.reduceAdd, Nat.reduceSub, Nat.reduceMul, Nat.reduceEqDiff, Nat.reduceLT, Nat.reduceLeDiff, Nat.reduceBEq, reduceCtorEq, Int.reduceToNat, Int.reduceAdd, Int.reduceSub, Int.reduceMul, Int.reduceNeg, Int.reduceLE, Int.reduceLT, Int.reduceEq, ↓reduceIte, h112], ⟨z, by simp only [go_sem, Nat.reduceAdd, Nat.reduceSub, Nat.reduceMul, Nat.reduceEqDiff, Nat.reduceLT, Nat.reduceLeDiff, Nat.reduceBEq, reduceCtorEq, Int.reduceToNat, Int.reduceAdd, Int.reduceSub, Int.reduceMul, Int.reduceNeg, Int.reduceLE, Int.reduceLT, Int.reduceEq, ↓reduceIte, h355]⟩, by simp only [go_sem, Nat.reduceAdd, Nat.reduceSub, Nat.reduceMul, Nat.reduceEqDiff, Nat.reduceLT, Nat.reduceLeDiff, Nat.reduceBEq, reduceCtorEq, Int.reduceToNat, Int.reduceAdd, Int.reduceSub, Int.reduceMul, Int.reduceNeg, Int.reduceLE, Int.reduceLT, Int.reduceEq, ↓reduceIte, h176], by simp only [go_sem, Nat.reduceAdd, Nat.reduceSub, Nat.reduceMul, Nat.reduceEqDiff, Nat.reduceLT, Nat.reduceLeDiff, Nat.reduceBEq, reduceCtorEq, Int.reduceToNat, Int.reduceAdd, Int.reduceSub, Int.reduceMul, Int.reduceNeg, Int.reduceLE, Int.reduceLT, Int.reduceEq, ↓reduceIte, hTo]⟩, ⟨by simp only [go_sem, Nat.reduceAdd, Nat.reduceSub, Nat.reduceMul, Nat.reduceEqDiff, Nat.reduceLT, Nat.reduceLeDiff, Nat.reduceBEq, reduceCtorEq, Int.reduceToNat, Int.reduceAdd, Int.reduceSub, Int.reduceMul, Int.reduceNeg, Int.reduceLE, Int.reduceLT, Int.reduceEq, ↓reduceIte, h13, hc'], by simp only [go_sem, Nat.reduceAdd, Nat.reduceSub, Nat.reduceMul, Nat.reduceEqDiff, Nat.reduceLT, Nat.reduceLeDiff, Nat.reduceBEq, reduceCtorEq, Int.reduceToNat, Int.reduceAdd, Int.reduceSub, Int.reduceMul, Int.reduceNeg, Int.reduceLE, Int.reduceLT, Int.reduceEq, ↓reduceIte, h99], by simp only [go_sem, Nat.reduceAdd, Nat.reduceSub, Nat.reduceMul, Nat.reduceEqDiff, Nat.reduceLT, Nat.reduceLeDiff, Nat.reduceBEq, reduceCtorEq, Int.reduceToNat, Int.reduceAdd, Int.reduceSub, Int.reduceMul, Int.reduceNeg, Int.reduceLE, Int.reduceLT, Int.reduceEq, ↓reduceIte, h100], by simp only [go_sem, Nat.reduceAdd, Nat.reduceSub, Nat.reduceMul, Nat.reduceEqDiff, Nat.reduceLT, Nat.reduceLeDiff, Nat.reduceBEq, reduceCtorEq, Int.reduceToNat, Int.reduceAdd, Int.reduceSub, Int.reduceMul, Int.reduceNeg, Int.reduceLE, Int.reduceLT, Int.reduceEq, ↓reduceIte, hcast]⟩⟩
  have hev : evAt qs d i = evOf qs p := by simp [evAt, hp, hd, hpid, hfind]
  simp only [go_sem, Nat.reduceAdd, Nat.reduceSub, Nat.reduceMul, Nat.reduceEqDiff, Nat.reduceLT, Nat.reduceLeDiff, Nat.reduceBEq, reduceCtorEq, Int.reduceToNat, Int.reduceAdd, Int.reduceSub, Int.reduceMul, Int.reduceNeg, Int.reduceLE, Int.reduceLT, Int.reduceEq, ↓reduceIte, h0, h1, h5, h6, h10, h11, h12, h112, h355, h176, h13, h99, h100, h101, hlt, hp', Place.v, List.length_map, hw, hq, hcast, hd]
  refine wpc_loop_of (fun m σ => ∃ j : Nat, m = n - j ∧ j ≤ n ∧ NearCtx sv t qs n d all tv To σ ∧ NearMid i (evList qs d i).length p n σ ∧ NearIn qs p n j σ) ?_ n _ ?_
  case refine_2 => exact ⟨0, by simp, by simp, ⟨by simp only [go_sem, Nat.reduceAdd, Nat.reduceSub, Nat.reduceMul, Nat.reduceEqDiff, Nat.reduceLT, Nat.reduceLeDiff, Nat.reduceBEq, reduceCtorEq, Int.reduceToNat, Int.reduceAdd, Int.reduceSub, Int.reduceMul, Int.reduceNeg, Int.reduceLE, Int.reduceLT, Int.reduceEq, ↓reduceIte, h0], by simp only [go_sem, Nat.reduceAdd, Nat.reduceSub, Nat.reduceMul, Nat.reduceEqDiff, Nat.reduceLT, Nat.reduceLeDiff, Nat.reduceBEq, reduceCtorEq, Int.reduceToNat, Int.reduceAdd, Int.reduceSub, Int.reduceMul, Int.reduceNeg, Int.reduceLE, Int.reduceLT, Int.reduceEq, ↓reduceIte, h1], by simp only [go_sem, Nat.reduceAdd, Nat.reduceSub, Nat.reduceMul, Nat.reduceEqDiff, Nat.reduceLT, Nat.reduceLeDiff, Nat.reduceBEq, reduceCtorEq, Int.reduceToNat, Int.reduceAdd, Int.reduceSub, Int.reduceMul, Int.reduceNeg, Int.reduceLE, Int.reduceLT, Int.reduceEq, ↓reduceIte, h5], by simp only [go_sem, Nat.reduceAdd, Nat.reduceSub, Nat.reduceMul, Nat.reduceEqDiff, Nat.reduceLT, Nat.reduceLeDiff, Nat.reduceBEq, reduceCtorEq, Int.reduceToNat, Int.reduceAdd, Int.reduceSub, Int.reduceMul, Int.reduceNeg, Int.reduceLE, Int.reduceLT, Int.reduceEq, ↓reduceIte, h6], by simp only [go_sem, Nat.reduceAdd, Nat.reduceSub, Nat.reduceMul, Nat.reduceEqDiff, Nat.reduceLT, Nat.reduceLeDiff, Nat.reduceBEq, reduceCtorEq, Int.reduceToNat, Int.reduceAdd, Int.reduceSub, Int.reduceMul, Int.reduceNeg, Int.reduceLE, Int.reduceLT, Int.reduceEq, ↓reduceIte, h10], by simp only [go_sem, Nat.reduceAdd, Nat.reduceSub, Nat.reduceMul, Nat.reduceEqDiff, Nat.reduceLT, Nat.reduceLeDiff, Nat.reduceBEq, reduceCtorEq, Int.reduceToNat, Int.reduceAdd, Int.reduceSub, Int.reduceMul, Int.reduceNeg, Int.reduceLE, Int.reduceLT, Int.reduceEq, ↓reduceIte, h11], by simp only [go_sem, Nat.reduceAdd, Nat.reduceSub, Nat.reduceMul, Nat.reduceEqDiff, Nat.reduceLT, Nat.reduceLeDiff, Nat.reduceBEq, reduceCtorEq, Int.reduceToNat, Int.reduceAdd, Int.reduceSub, Int.reduceMul, Int.reduceNeg, Int.reduceLE, Int.reduceLT, Int.reduceEq, ↓reduceIte, h12], by simp only [go_sem, Nat.reduceAdd, Nat.reduceSub, Nat.reduceMul, Nat.reduceEqDiff, Nat.reduceLT, Nat.reduceLeDiff, Nat.reduceBEq, reduceCtorEq, Int.reduceToNat, Int.reduceAdd, Int.reduceSub, Int.reduceMul, Int.reduceNeg, Int.reduceLE, Int.reduceLT, Int.reduceEq, ↓reduceIte, h112], ⟨z, by simp only [go_sem, Nat.reduceAdd, Nat.reduceSub, Nat.reduceMul, Nat.reduceEqDiff, Nat.reduceLT, Nat.reduceLeDiff, Nat.reduceBEq, reduceCtorEq, Int.reduceToNat, Int.reduceAdd, Int.reduceSub, Int.reduceMul, Int.reduceNeg, Int.reduceLE, Int.reduceLT, Int.reduceEq, ↓reduceIte, h355]⟩, by simp only [go_sem, Nat.reduceAdd, Nat.reduceSub, Nat.reduceMul, Nat.reduceEqDiff, Nat.reduceLT, Nat.reduceLeDiff, Nat.reduceBEq, reduceCtorEq, Int.reduceToNat, Int.reduceAdd, Int.reduceSub, Int.reduceMul, Int.reduceNeg, Int.reduceLE, Int.reduceLT, Int.reduceEq, ↓reduceIte, h176], by simp only [go_sem, Nat.reduceAdd, Nat.reduceSub, Nat.reduceMul, Nat.reduceEqDiff, Nat.reduceLT, Nat.reduceLeDiff, Nat.reduceBEq, reduceCtorEq, Int.reduceToNat, Int.reduceAdd, Int.reduceSub, Int.reduceMul, Int.reduceNeg, Int.reduceLE, Int.reduceLT, Int.reduceEq, ↓reduceIte, hTo]⟩, ⟨by simp only [go_sem, Nat.reduceAdd, Nat.reduceSub, Nat.reduceMul, Nat.reduceEqDiff, Nat.reduceLT, Nat.reduceLeDiff, Nat.reduceBEq, reduceCtorEq, Int.reduceToNat, Int.reduceAdd, Int.reduceSub, Int.reduceMul, Int.reduceNeg, Int.reduceLE, Int.reduceLT, Int.reduceEq, ↓reduceIte, h13], by simp only [go_sem, Nat.reduceAdd, Nat.reduceSub, Nat.reduceMul, Nat.reduceEqDiff, Nat.reduceLT, Nat.reduceLeDiff, Nat.reduceBEq, reduceCtorEq, Int.reduceToNat, Int.reduceAdd, Int.reduceSub, Int.reduceMul, Int.reduceNeg, Int.reduceLE, Int.reduceLT, Int.reduceEq, ↓reduceIte], by simp only [go_sem, Nat.reduceAdd, Nat.reduceSub, Nat.reduceMul, Nat.reduceEqDiff, Nat.reduceLT, Nat.reduceLeDiff, Nat.reduceBEq, reduceCtorEq, Int.reduceToNat, Int.reduceAdd, Int.reduceSub, Int.reduceMul, Int.reduceNeg, Int.reduceLE, Int.reduceLT, Int.reduceEq, ↓reduceIte, h99], by simp only [go_sem, Nat.reduceAdd, Nat.reduceSub, Nat.reduceMul, Nat.reduceEqDiff, Nat.reduceLT, Nat.reduceLeDiff, Nat.reduceBEq, reduceCtorEq, Int.reduceToNat, Int.reduceAdd, Int.reduceSub, Int.reduceMul, Int.reduceNeg, Int.reduceLE, Int.reduceLT, Int.reduceEq, ↓reduceIte, h100], by simp only [go_sem, Nat.reduceAdd, Nat.reduceSub, Nat.reduceMul, Nat.reduceEqDiff, Nat.reduceLT, Nat.reduceLeDiff, Nat.reduceBEq, reduceCtorEq, Int.reduceToNat, Int.reduceAdd, Int.reduceSub, Int.reduceMul, Int.reduceNeg, Int.reduceLE, Int.reduceLT, Int.reduceEq, ↓reduceIte, h101], (σ.O 256).gen + 1, by simp only [go_sem, Nat.reduceAdd, Nat.reduceSub, Nat.reduceMul, Nat.reduceEqDiff, Nat.reduceLT, Nat.reduceLeDiff, Nat.reduceBEq, reduceCtorEq, Int.reduceToNat, Int.reduceAdd, Int.reduceSub, Int.reduceMul, Int.reduceNeg, Int.reduceLE, Int.reduceLT, Int.reduceEq, ↓reduceIte], by simp only [go_sem, Nat.reduceAdd, Nat.reduceSub, Nat.reduceMul, Nat.reduceEqDiff, Nat.reduceLT, Nat.reduceLeDiff, Nat.reduceBEq, reduceCtorEq, Int.reduceToNat, Int.reduceAdd, Int.reduceSub, Int.reduceMul, Int.reduceNeg, Int.reduceLE, Int.reduceLT, Int.reduceEq, ↓reduceIte, Place.v, hd]⟩, by simp only [go_sem, Nat.reduceAdd, Nat.reduceSub, Nat.reduceMul, Nat.reduceEqDiff, Nat.reduceLT, Nat.reduceLeDiff, Nat.reduceBEq, reduceCtorEq, Int.reduceToNat, Int.reduceAdd, Int.reduceSub, Int.reduceMul, Int.reduceNeg, Int.reduceLE, Int.reduceLT, Int.reduceEq, ↓reduceIte], by simp only [go_sem, Nat.reduceAdd, Nat.reduceSub, Nat.reduceMul, Nat.reduceEqDiff, Nat.reduceLT, Nat.reduceLeDiff, Nat.reduceBEq, reduceCtorEq, Int.reduceToNat, Int.reduceAdd, Int.reduceSub, Int.reduceMul, Int.reduceNeg, Int.reduceLE, Int.reduceLT, Int.reduceEq, ↓reduceIte], by simp only [go_sem, Nat.reduceAdd, Nat.reduceSub, Nat.reduceMul, Nat.reduceEqDiff, Nat.reduceLT, Nat.reduceLeDiff, Nat.reduceBEq, reduceCtorEq, Int.reduceToNat, Int.reduceAdd, Int.reduceSub, Int.reduceMul, Int.reduceNeg, Int.reduceLE, Int.reduceLT, Int.reduceEq, ↓reduceIte], by simp only [go_sem, Nat.reduceAdd, Nat.reduceSub, Nat.reduceMul, Nat.reduceEqDiff, Nat.reduceLT, Nat.reduceLeDiff, Nat.reduceBEq, reduceCtorEq, Int.reduceToNat, Int.reduceAdd, Int.reduceSub, Int.reduceMul, Int.reduceNeg, Int.reduceLE, Int.reduceLT, Int.reduceEq, ↓reduceIte, bestN, bestOf, canList, List.range_zero, List.filterMap_nil]⟩
  clear h0 h1 h5 h6 h10 h11 h12 h112 h355 h176 hTo h13 h99 h100 h101 z
  clear σ
  rintro m σ ⟨j, rfl, hj, hctx, hmid, hin⟩
  by_cases hltj : j < n
  case pos =>
    refine wpc_mono (near_in hids hn8 hq hltj hpid hctx hmid hin) fun e σ' he => ?_
    obtain ⟨rfl, a1, a2, a3⟩ := he
    exact ⟨n - (j + 1), by omega, j + 1, rfl, by omega, a1, a2, a3⟩
  obtain rfl : j = n := by omega
  obtain ⟨h0, h1, h5, h6, h10, h11, h12, h112, ⟨z, h355⟩, h176, hTo⟩ := hctx
  obtain ⟨h13, h14, h99, h100, h101, g, h15, h256⟩ := hmid
  obtain ⟨h111, h112', h113, h16⟩ := hin
  cases hbo : bestOf qs p j with
  | none =>
    have hb0 : bestN qs p j = -1 := by simp [bestN, hbo]
    have hev2 : evOf qs p = none := by rw [evOf_best, hq, hbo]
    rw [hev, hev2, Option.toList_none, List.append_nil] at hsucc
    have hc' := congrArg List.length hsucc
    simp only [go_sem, Nat.reduceAdd, Nat.reduceSub, Nat.reduceMul, Nat.reduceEqDiff, Nat.reduceLT, Nat.reduceLeDiff, Nat.reduceBEq, reduceCtorEq, Int.reduceToNat, Int.reduceAdd, Int.reduceSub, Int.reduceMul, Int.reduceNeg, Int.reduceLE, Int.reduceLT, Int.reduceEq, ↓reduceIte, h0, h1, h5, h6, h10, h11, h12, h112, h355, h176, h13, h99, h100, h101, h14, h15, h256, h111, h112', h113, h16, hltj, Place.v, List.length_map, hw, hq, hcast, hb0]
    exact ⟨⟨by simp only [go_sem, Nat.reduceAdd, Nat.reduceSub, Nat.reduceMul, Nat.reduceEqDiff, Nat.reduceLT, Nat.reduceLeDiff, Nat.reduceBEq, reduceCtorEq, Int.reduceToNat, Int.reduceAdd, Int.reduceSub, Int.reduceMul, Int.reduceNeg, Int.reduceLE, Int.reduceLT, Int.reduceEq, ↓reduceIte, h0], by simp only [go_sem, Nat.reduceAdd, Nat.reduceSub, Nat.reduceMul, Nat.reduceEqDiff, Nat.reduceLT, Nat.reduceLeDiff, Nat.reduceBEq, reduceCtorEq, Int.reduceToNat, Int.reduceAdd, Int.reduceSub, Int.reduceMul, Int.reduceNeg, Int.reduceLE, Int.reduceLT, Int.reduceEq, ↓reduceIte, h1], by simp only [go_sem, Nat.reduceAdd, Nat.reduceSub, Nat.reduceMul, Nat.reduceEqDiff, Nat.reduceLT, Nat.reduceLeDiff, Nat.reduceBEq, reduceCtorEq, Int.reduceToNat, Int.reduceAdd, Int.reduceSub, Int.reduceMul, Int.reduceNeg, Int.reduceLE, Int.reduceLT, Int.reduceEq, ↓reduceIte, h5], by simp only [go_sem, Nat.reduceAdd, Nat.reduceSub, Nat.reduceMul, Nat.reduceEqDiff, Nat.reduceLT, Nat.reduceLeDiff, Nat.reduceBEq, reduceCtorEq, Int.reduceToNat, Int.reduceAdd, Int.reduceSub, Int.reduceMul, Int.reduceNeg, Int.reduceLE, Int.reduceLT, Int.reduceEq, ↓reduceIte, h6], by simp only [go_sem, Nat.reduceAdd, Nat.reduceSub, Nat.reduceMul, Nat.reduceEqDiff, Nat.reduceLT, Nat.reduceLeDiff, Nat.reduceBEq, reduceCtorEq, Int.reduceToNat, Int.reduceAdd, Int.reduceSub, Int.reduceMul, Int.reduceNeg, Int.reduceLE, Int.reduceLT, Int.reduceEq, ↓reduceIte, h10], by simp only [go_sem, Nat.reduceAdd, Nat.reduceSub, Nat.reduceMul, Nat.reduceEqDiff, Nat.reduceLT, Nat.reduceLeDiff, Nat.reduceBEq, reduceCtorEq, Int.reduceToNat, Int.reduceAdd, Int.reduceSub, Int.reduceMul, Int.reduceNeg, Int.reduceLE, Int.reduceLT, Int.reduceEq, ↓reduceIte, h11], by simp only [go_sem, Nat.reduceAdd, Nat.reduceSub, Nat.reduceMul, Nat.reduceEqDiff, Nat.reduceLT, Nat.reduceLeDiff, Nat.reduceBEq, reduceCtorEq, Int.reduceToNat, Int.reduceAdd, Int.reduceSub, Int.reduceMul, Int.reduceNeg, Int.reduceLE, Int.reduceLT, Int.reduceEq, ↓reduceIte, h12], by simp only [go_sem, Nat.reduceAdd, Nat.reduceSub, Nat.reduceMul, Nat.reduceEqDiff, Nat.reduceLT, Nat.reduceLeDiff, Nat.reduceBEq, reduceCtorEq, Int.reduceToNat, Int.reduceAdd, Int.reduceSub, Int.reduceMul, Int.reduceNeg, Int.reduceLE, Int.reduceLT, Int.reduceEq, ↓reduceIte, h112], ⟨z, by simp only [go_sem, Nat.reduceAdd, Nat.reduceSub, Nat.reduceMul, Nat.reduceEqDiff, Nat.reduceLT, Nat.reduceLeDiff, Nat.reduceBEq, reduceCtorEq, Int.reduceToNat, Int.reduceAdd, Int.reduceSub, Int.reduceMul, Int.reduceNeg, Int.reduceLE, Int.reduceLT, Int.reduceEq, ↓reduceIte, h355]⟩, by simp only [go_sem, Nat.reduceAdd, Nat.reduceSub, Nat.reduceMul, Nat.reduceEqDiff, Nat.reduceLT, Nat.reduceLeDiff, Nat.reduceBEq, reduceCtorEq, Int.reduceToNat, Int.reduceAdd, Int.reduceSub, Int.reduceMul, Int.reduceNeg, Int.reduceLE, Int.reduceLT, Int.reduceEq, ↓reduceIte, h176], by simp only [go_sem, Nat.reduceAdd, Nat.reduceSub, Nat.reduceMul, Nat.reduceEqDiff, Nat.reduceLT, Nat.reduceLeDiff, Nat.reduceBEq, reduceCtorEq, Int.reduceToNat, Int.reduceAdd, Int.reduceSub, Int.reduceMul, Int.reduceNeg, Int.reduceLE, Int.reduceLT, Int.reduceEq, ↓reduceIte, hTo]⟩, ⟨by simp only [go_sem, Nat.reduceAdd, Nat.reduceSub, Nat.reduceMul, Nat.reduceEqDiff, Nat.reduceLT, Nat.reduceLeDiff, Nat.reduceBEq, reduceCtorEq, Int.reduceToNat, Int.reduceAdd, Int.reduceSub, Int.reduceMul, Int.reduceNeg, Int.reduceLE, Int.reduceLT, Int.reduceEq, ↓reduceIte, h13, hc'], by simp only [go_sem, Nat.reduceAdd, Nat.reduceSub, Nat.reduceMul, Nat.reduceEqDiff, Nat.reduceLT, Nat.reduceLeDiff, Nat.reduceBEq, reduceCtorEq, Int.reduceToNat, Int.reduceAdd, Int.reduceSub, Int.reduceMul, Int.reduceNeg, Int.reduceLE, Int.reduceLT, Int.reduceEq, ↓reduceIte, h99], by simp only [go_sem, Nat.reduceAdd, Nat.reduceSub, Nat.reduceMul, Nat.reduceEqDiff, Nat.reduceLT, Nat.reduceLeDiff, Nat.reduceBEq, reduceCtorEq, Int.reduceToNat, Int.reduceAdd, Int.reduceSub, Int.reduceMul, Int.reduceNeg, Int.reduceLE, Int.reduceLT, Int.reduceEq, ↓reduceIte, h100], by simp only [go_sem, Nat.reduceAdd, Nat.reduceSub, Nat.reduceMul, Nat.reduceEqDiff, Nat.reduceLT, Nat.reduceLeDiff, Nat.reduceBEq, reduceCtorEq, Int.reduceToNat, Int.reduceAdd, Int.reduceSub, Int.reduceMul, Int.reduceNeg, Int.reduceLE, Int.reduceLT, Int.reduceEq, ↓reduceIte, hcast]⟩⟩
  | some b =>
    obtain ⟨ib, hib, hgb⟩ := bestOf_mem hbo
    have hbid := hids _ _ hgb
    have hb0 : bestN qs p j = ib := by simp [bestN, hbo, hbid]
    have hev2 : evOf qs p = some ⟨4, if 1 < costPP p b then costPP p b else 1, p.id, b.id, 0⟩ := by rw [evOf_best, hq, hbo]
    rw [hev2] at hev
    have hgete := evList_get hlt hev
    have hgete' : ((evList qs d j).map Event.v)[(evList qs d i).length]? = some (.agg [.int .i64 4, .int .i64 (if 1 < costPP p b then costPP p b else 1), .int .i64 i, .int .i64 ib, .int .i64 0]) := by simp [hgete, Event.v, hpid, hbid]
    have hcl : (evList qs d i).length < (evList qs d j).length := (List.getElem?_eq_some_iff.1 hgete).1
    rw [hev, Option.toList_some] at hsucc
    have hc' := congrArg List.length hsucc
    rw [List.length_append] at hc'
    have hcle : (evList qs d i).length ≤ i := by
      simp only [evList]
      exact Nat.le_trans (List.length_filterMap_le _ _) (by simp)
    have hw2 := wrap64 (show -9223372036854775808 ≤ ((evList qs d i).length : Int) + 1 by omega) (show ((evList qs d i).length : Int) + 1 ≤ 9223372036854775807 by omega)
    have hnn : ¬ (ib : Int) < 0 := by omega
    have hge : ¬ ((evList qs d j).length : Int) ≤ ((evList qs d i).length : Int) := by omega
    have hfb := findP_ids hids (i := ib) (by omega)
    have hwinq : AM.window (qs.map Place.v) 0 j = qs.map Place.v := window_all (by simp [hq])
    have hlit : IsSl 7 (qs.map Place.v) (.lit 7 (qs.map Place.v)) := .inl rfl
    have hcost := cost_ev (e := .nils) (f := .nils) (w := .nils) rfl rfl rfl hlit (by omega) hfind hfb hp hgb
    simp only [go_sem, Nat.reduceAdd, Nat.reduceSub, Nat.reduceMul, Nat.reduceEqDiff, Nat.reduceLT, Nat.reduceLeDiff, Nat.reduceBEq, reduceCtorEq, Int.reduceToNat, Int.reduceAdd, Int.reduceSub, Int.reduceMul, Int.reduceNeg, Int.reduceLE, Int.reduceLT, Int.reduceEq, ↓reduceIte, h0, h1, h5, h6, h10, h11, h12, h112, h355, h176, h13, h99, h100, h101, h14, h15, h256, h111, h112', h113, h16, hltj, Place.v, List.length_map, hw, hq, hcast, hb0, hnn]
    refine wpc_drawn_of ?_
    simp only [go_sem, Nat.reduceAdd, Nat.reduceSub, Nat.reduceMul, Nat.reduceEqDiff, Nat.reduceLT, Nat.reduceLeDiff, Nat.reduceBEq, reduceCtorEq, Int.reduceToNat, Int.reduceAdd, Int.reduceSub, Int.reduceMul, Int.reduceNeg, Int.reduceLE, Int.reduceLT, Int.reduceEq, ↓reduceIte, h0, h1, h5, h6, h10, h11, h12, h112, h355, h176, h13, h99, h100, h101, h14, h15, h256, h111, h112', h113, h16, hltj, Place.v, List.length_map, hw, hq, hcast, hb0, hnn, len_sl hall, idx_sl hall, hgete', hge, hcl]
    simp only [go_sem, Nat.reduceAdd, Nat.reduceSub, Nat.reduceMul, Nat.reduceEqDiff, Nat.reduceLT, Nat.reduceLeDiff, Nat.reduceBEq, reduceCtorEq, Int.reduceToNat, Int.reduceAdd, Int.reduceSub, Int.reduceMul, Int.reduceNeg, Int.reduceLE, Int.reduceLT, Int.reduceEq, ↓reduceIte, doCall, wpa_call, wpf_call, prepare.eq_1, prepare.eq_2, prepare.eq_3, prepare.eq_4, prepare.eq_5, prepare.eq_6, prepare.eq_7, snap, snapV_pure, snapV.eq_2, snapV.eq_3, snapV.eq_4, snapV.eq_5, snapV.eq_6, snapV.eq_7, snapL.eq_1, snapL.eq_2, snapAll, E_12, f12, h6, h112, h355, hwinq, hq, List.length_map, Place.pures]
    refine ⟨_, hcost, ?_⟩
    simp only [go_sem, Nat.reduceAdd, Nat.reduceSub, Nat.reduceMul, Nat.reduceEqDiff, Nat.reduceLT, Nat.reduceLeDiff, Nat.reduceBEq, reduceCtorEq, Int.reduceToNat, Int.reduceAdd, Int.reduceSub, Int.reduceMul, Int.reduceNeg, Int.reduceLE, Int.reduceLT, Int.reduceEq, ↓reduceIte, h0, h1, h5, h6, h10, h11, h12, h112, h355, h176, h13, h99, h100, h101, h14, h15, h256, h111, h112', h113, h16, hltj, Place.v, List.length_map, hw, hq, hcast, hb0, hnn, hw2]
    refine ⟨by rfl, ⟨by simp only [go_sem, Nat.reduceAdd, Nat.reduceSub, Nat.reduceMul, Nat.reduceEqDiff, Nat.reduceLT, Nat.reduceLeDiff, Nat.reduceBEq, reduceCtorEq, Int.reduceToNat, Int.reduceAdd, Int.reduceSub, Int.reduceMul, Int.reduceNeg, Int.reduceLE, Int.reduceLT, Int.reduceEq, ↓reduceIte, h0], by simp only [go_sem, Nat.reduceAdd, Nat.reduceSub, Nat.reduceMul, Nat.reduceEqDiff, Nat.reduceLT, Nat.reduceLeDiff, Nat.reduceBEq, reduceCtorEq, Int.reduceToNat, Int.reduceAdd, Int.reduceSub, Int.reduceMul, Int.reduceNeg, Int.reduceLE, Int.reduceLT, Int.reduceEq, ↓reduceIte, h1], by simp only [go_sem, Nat.reduceAdd, Nat.reduceSub, Nat.reduceMul, Nat.reduceEqDiff, Nat.reduceLT, Nat.reduceLeDiff, Nat.reduceBEq, reduceCtorEq, Int.reduceToNat, Int.reduceAdd, Int.reduceSub, Int.reduceMul, Int.reduceNeg, Int.reduceLE, Int.reduceLT, Int.reduceEq, ↓reduceIte, h5], by simp only [go_sem, Nat.reduceAdd, Nat.reduceSub, Nat.reduceMul, Nat.reduceEqDiff, Nat.reduceLT, Nat.reduceLeDiff, Nat.reduceBEq, reduceCtorEq, Int.reduceToNat, Int.reduceAdd, Int.reduceSub, Int.reduceMul, Int.reduceNeg, Int.reduceLE, Int.reduceLT, Int.reduceEq, ↓reduceIte, h6], by simp only [go_sem, Nat.reduceAdd, Nat.reduceSub, Nat.reduceMul, Nat.reduceEqDiff, Nat.reduceLT, Nat.reduceLeDiff, Nat.reduceBEq, reduceCtorEq, Int.reduceToNat, Int.reduceAdd, Int.reduceSub, Int.reduceMul, Int.reduceNeg, Int.reduceLE, Int.reduceLT, Int.reduceEq, ↓reduceIte, h10], by simp only [go_sem, Nat.reduceAdd, Nat.reduceSub, Nat.reduceMul, Nat.reduceEqDiff, Nat.reduceLT, Nat.reduceLeDiff, Nat.reduceBEq, reduceCtorEq, Int.reduceToNat, Int.reduceAdd, Int.reduceSub, Int.reduceMul, Int.reduceNeg, Int.reduceLE, Int.reduceLT, Int.reduceEq, ↓reduceIte, h11], by simp only [go_sem, Nat.reduceAdd, Nat.reduceSub, Nat.reduceMul, Nat.reduceEqDiff, Nat.reduceLT, Nat.reduceLeDiff, Nat.reduceBEq, reduceCtorEq, Int.reduceToNat, Int.reduceAdd, Int.reduceSub, Int.reduceMul, Int.reduceNeg, Int.reduceLE, Int.reduceLT, Int.reduceEq, ↓reduceIte, h12], by simp only [go_sem, Nat.reduceAdd, Nat.reduceSub, Nat.reduceMul, Nat.reduceEqDiff, Nat.reduceLT, Nat.reduceLeDiff, Nat.reduceBEq, reduceCtorEq, Int.reduceToNat, Int.reduceAdd, Int.reduceSub, Int.reduceMul, Int.reduceNeg, Int.reduceLE, Int.reduceLT, Int.reduceEq, ↓reduceIte, h112], ⟨z, by simp only [go_sem, Nat.reduceAdd, Nat.reduceSub, Nat.reduceMul, Nat.reduceEqDiff, Nat.reduceLT, Nat.reduceLeDiff, Nat.reduceBEq, reduceCtorEq, Int.reduceToNat, Int.reduceAdd, Int.reduceSub, Int.reduceMul, Int.reduceNeg, Int.reduceLE, Int.reduceLT, Int.reduceEq, ↓reduceIte, h355]⟩, by simp only [go_sem, Nat.reduceAdd, Nat.reduceSub, Nat.reduceMul, Nat.reduceEqDiff, Nat.reduceLT, Nat.reduceLeDiff, Nat.reduceBEq, reduceCtorEq, Int.reduceToNat, Int.reduceAdd, Int.reduceSub, Int.reduceMul, Int.reduceNeg, Int.reduceLE, Int.reduceLT, Int.reduceEq, ↓reduceIte, h176], by simp only [go_sem, Nat.reduceAdd, Nat.reduceSub, Nat.reduceMul, Nat.reduceEqDiff, Nat.reduceLT, Nat.reduceLeDiff, Nat.reduceBEq, reduceCtorEq, Int.reduceToNat, Int.reduceAdd, Int.reduceSub, Int.reduceMul, Int.reduceNeg, Int.reduceLE, Int.reduceLT, Int.reduceEq, ↓reduceIte, hTo]⟩, ⟨by simp only [go_sem, Nat.reduceAdd, Nat.reduceSub, Nat.reduceMul, Nat.reduceEqDiff, Nat.reduceLT, Nat.reduceLeDiff, Nat.reduceBEq, reduceCtorEq, Int.reduceToNat, Int.reduceAdd, Int.reduceSub, Int.reduceMul, Int.reduceNeg, Int.reduceLE, Int.reduceLT, Int.reduceEq, ↓reduceIte, h13, hc']; rfl, by simp only [go_sem, Nat.reduceAdd, Nat.reduceSub, Nat.reduceMul, Nat.reduceEqDiff, Nat.reduceLT, Nat.reduceLeDiff, Nat.reduceBEq, reduceCtorEq, Int.reduceToNat, Int.reduceAdd, Int.reduceSub, Int.reduceMul, Int.reduceNeg, Int.reduceLE, Int.reduceLT, Int.reduceEq, ↓reduceIte, h99], by simp only [go_sem, Nat.reduceAdd, Nat.reduceSub, Nat.reduceMul, Nat.reduceEqDiff, Nat.reduceLT, Nat.reduceLeDiff, Nat.reduceBEq, reduceCtorEq, Int.reduceToNat, Int.reduceAdd, Int.reduceSub, Int.reduceMul, Int.reduceNeg, Int.reduceLE, Int.reduceLT, Int.reduceEq, ↓reduceIte, h100], by simp only [go_sem, Nat.reduceAdd, Nat.reduceSub, Nat.reduceMul, Nat.reduceEqDiff, Nat.reduceLT, Nat.reduceLeDiff, Nat.reduceBEq, reduceCtorEq, Int.reduceToNat, Int.reduceAdd, Int.reduceSub, Int.reduceMul, Int.reduceNeg, Int.reduceLE, Int.reduceLT, Int.reduceEq, ↓reduceIte, hcast]⟩⟩
end Go.AM

/-
  hachurelaw15: GatherNearest, the loop over the districts. Own work.
-/
set_option linter.unusedSimpArgs false
namespace Go.AM

theorem allP_nil (ps : List Place) (d : Int) : evList ps d ps.length = [] ↔ allP ps d = [] := by
  have h : (allP ps d).length = (evList ps d ps.length).length := isortN_length _ _ _ _
  rw [← List.length_eq_zero_iff, ← List.length_eq_zero_iff, h]

def To_1184 (g : Nat) (ts : List Place) (a _b : Obj) : Prop := ∃ z, a = { gen := g, sz := 7, arr := true, fz := z, es := some (ts.map Place.v) }
def To_1345 (g : Nat) (ts : List Place) (_a b : Obj) : Prop := ∃ z, b = { gen := g, sz := 7, arr := true, fz := z, es := some (ts.map Place.v) }

set_option maxHeartbeats 4000000 in
set_option maxRecDepth 100000 in
theorem near_dist_1184 {sv : V} {t : Int} {qs ts : List Place} {n : Nat} {d : Int} {g : Nat} {all : V} {σ : St}
    (hids : ∀ (i : Nat) (q : Place), qs[i]? = some q → q.id = i) (hn8 : n ≤ 8) (hq : qs.length = n) (ht : ts.length = n) (hn0 : n ≠ 0) (hd : d ≤ 2) (hd1 : 1 ≤ d)
    (hsrt : allP qs d = evList qs d n) (hturn : allP ts d = allP qs d)
    (h : NearCtx sv t qs n d all (.sl 1184 g 0 n) (To_1184 g ts) σ) :
    wpc E f4_l3 σ fun ex σ' => ex = .normal ∧ ∃ all', NearCtx sv t qs n (d + 1) all' (.sl 1184 g 0 n) (To_1184 g ts) σ' := by
  obtain ⟨h0, h1, h5, h6, h10, h11, h12, h112, ⟨z, h355⟩, h176, z2, hTo⟩ := h
  have hw := wrap64 (show -9223372036854775808 ≤ d + 1 by omega) (show d + 1 ≤ 9223372036854775807 by omega)
  have hwinq : AM.window (qs.map Place.v) 0 n = qs.map Place.v := window_all (by simp [hq])
  have hwint : AM.window (ts.map Place.v) 0 n = ts.map Place.v := window_all (by simp [ht])
  have hlitq : IsSl 7 (qs.map Place.v) (.lit 7 (qs.map Place.v)) := .inl rfl
  have hlitt : IsSl 7 (ts.map Place.v) (.lit 7 (ts.map Place.v)) := .inl rfl
  have hallq := all_ev (e := .nils) (f := .nils) (w := .nils) rfl rfl rfl hlitq (by omega) (by omega) d
  have hallt := all_ev (e := .nils) (f := .nils) (w := .nils) rfl rfl rfl hlitt (by omega) (by omega) d
  have e1 : (evList qs d qs.length = []) = (evList qs d n = []) := by rw [allP_nil, hsrt]
  have e2 : (evList ts d ts.length = []) = (evList qs d n = []) := by rw [allP_nil, hturn, hsrt]
  simp only [e1, hsrt] at hallq
  simp only [e2, hturn, hsrt] at hallt
  have hsc := Event.scalars (evList qs d n)
  by_cases hR : evList qs d n = []
  · rw [if_pos hR] at hallq hallt
    have hall : IsSl 5 ((evList qs d n).map Event.v) .nils := .inr ⟨rfl, by simp [hR]⟩
    have hsame := same_ev (l1 := []) (l2 := []) (v1 := .nils) (v2 := .nils) (.inr ⟨rfl, rfl⟩) (.inr ⟨rfl, rfl⟩) (by simp)
    simp only [go_sem, Nat.reduceAdd, Nat.reduceSub, Nat.reduceMul, Nat.reduceEqDiff, Nat.reduceLT, Nat.reduceLeDiff, Nat.reduceBEq, reduceCtorEq, Int.reduceToNat, Int.reduceAdd, Int.reduceSub, Int.reduceMul, Int.reduceNeg, Int.reduceLE, Int.reduceLT, Int.reduceEq, ↓reduceIte, h0, h1, h5, h6, h10, h11, h12, h112, h355, h176, hTo, hd, List.length_map, hw, hq, ht, hwinq, hwint, h0]
    simp only [go_sem, Nat.reduceAdd, Nat.reduceSub, Nat.reduceMul, Nat.reduceEqDiff, Nat.reduceLT, Nat.reduceLeDiff, Nat.reduceBEq, reduceCtorEq, Int.reduceToNat, Int.reduceAdd, Int.reduceSub, Int.reduceMul, Int.reduceNeg, Int.reduceLE, Int.reduceLT, Int.reduceEq, ↓reduceIte, doCall, wpa_call, wpf_call, prepare.eq_1, prepare.eq_2, prepare.eq_3, prepare.eq_4, prepare.eq_5, prepare.eq_6, prepare.eq_7, snap, snapV_pure, snapV.eq_2, snapV.eq_3, snapV.eq_4, snapV.eq_5, snapV.eq_6, snapV.eq_7, snapL.eq_1, snapL.eq_2, snapAll, E_9, f9, h6, h112, h355, hwinq, hq, List.length_map, Place.pures]
    refine ⟨_, hallq, ?_⟩
    simp only [go_sem, Nat.reduceAdd, Nat.reduceSub, Nat.reduceMul, Nat.reduceEqDiff, Nat.reduceLT, Nat.reduceLeDiff, Nat.reduceBEq, reduceCtorEq, Int.reduceToNat, Int.reduceAdd, Int.reduceSub, Int.reduceMul, Int.reduceNeg, Int.reduceLE, Int.reduceLT, Int.reduceEq, ↓reduceIte, h0, h1, h5, h6, h10, h11, h12, h112, h355, h176, hTo, hd, List.length_map, hw, hq, ht, hwinq, hwint, h0]
    simp only [go_sem, Nat.reduceAdd, Nat.reduceSub, Nat.reduceMul, Nat.reduceEqDiff, Nat.reduceLT, Nat.reduceLeDiff, Nat.reduceBEq, reduceCtorEq, Int.reduceToNat, Int.reduceAdd, Int.reduceSub, Int.reduceMul, Int.reduceNeg, Int.reduceLE, Int.reduceLT, Int.reduceEq, ↓reduceIte, doCall, wpa_call, wpf_call, prepare.eq_1, prepare.eq_2, prepare.eq_3, prepare.eq_4, prepare.eq_5, prepare.eq_6, prepare.eq_7, snap, snapV_pure, snapV.eq_2, snapV.eq_3, snapV.eq_4, snapV.eq_5, snapV.eq_6, snapV.eq_7, snapL.eq_1, snapL.eq_2, snapAll, E_9, f9, h10, h11, h176, hTo, hwint, ht, List.length_map, Place.pures]
    refine ⟨_, hallt, ?_⟩
    simp only [go_sem, Nat.reduceAdd, Nat.reduceSub, Nat.reduceMul, Nat.reduceEqDiff, Nat.reduceLT, Nat.reduceLeDiff, Nat.reduceBEq, reduceCtorEq, Int.reduceToNat, Int.reduceAdd, Int.reduceSub, Int.reduceMul, Int.reduceNeg, Int.reduceLE, Int.reduceLT, Int.reduceEq, ↓reduceIte, h0, h1, h5, h6, h10, h11, h12, h112, h355, h176, hTo, hd, List.length_map, hw, hq, ht, hwinq, hwint, h0]
    refine wpa_pure E_10 rfl (by simp [V.arePure, hall.pure]) hsame ?_
    simp only [go_sem, Nat.reduceAdd, Nat.reduceSub, Nat.reduceMul, Nat.reduceEqDiff, Nat.reduceLT, Nat.reduceLeDiff, Nat.reduceBEq, reduceCtorEq, Int.reduceToNat, Int.reduceAdd, Int.reduceSub, Int.reduceMul, Int.reduceNeg, Int.reduceLE, Int.reduceLT, Int.reduceEq, ↓reduceIte, h0, h1, h5, h6, h10, h11, h12, h112, h355, h176, hTo, hd, List.length_map, hw, hq, ht, hwinq, hwint, h0]
    refine wpc_loop_of (fun m σ => ∃ i : Nat, m = n - i ∧ i ≤ n ∧ NearCtx sv t qs n d .nils (.sl 1184 g 0 n) (To_1184 g ts) σ ∧ NearOut i (evList qs d i).length n σ) ?_ n _ ?_
    case refine_2 => exact ⟨0, by simp, by simp, ⟨by simp only [go_sem, Nat.reduceAdd, Nat.reduceSub, Nat.reduceMul, Nat.reduceEqDiff, Nat.reduceLT, Nat.reduceLeDiff, Nat.reduceBEq, reduceCtorEq, Int.reduceToNat, Int.reduceAdd, Int.reduceSub, Int.reduceMul, Int.reduceNeg, Int.reduceLE, Int.reduceLT, Int.reduceEq, ↓reduceIte, h0], by simp only [go_sem, Nat.reduceAdd, Nat.reduceSub, Nat.reduceMul, Nat.reduceEqDiff, Nat.reduceLT, Nat.reduceLeDiff, Nat.reduceBEq, reduceCtorEq, Int.reduceToNat, Int.reduceAdd, Int.reduceSub, Int.reduceMul, Int.reduceNeg, Int.reduceLE, Int.reduceLT, Int.reduceEq, ↓reduceIte, h1], by simp only [go_sem, Nat.reduceAdd, Nat.reduceSub, Nat.reduceMul, Nat.reduceEqDiff, Nat.reduceLT, Nat.reduceLeDiff, Nat.reduceBEq, reduceCtorEq, Int.reduceToNat, Int.reduceAdd, Int.reduceSub, Int.reduceMul, Int.reduceNeg, Int.reduceLE, Int.reduceLT, Int.reduceEq, ↓reduceIte, h5], by simp only [go_sem, Nat.reduceAdd, Nat.reduceSub, Nat.reduceMul, Nat.reduceEqDiff, Nat.reduceLT, Nat.reduceLeDiff, Nat.reduceBEq, reduceCtorEq, Int.reduceToNat, Int.reduceAdd, Int.reduceSub, Int.reduceMul, Int.reduceNeg, Int.reduceLE, Int.reduceLT, Int.reduceEq, ↓reduceIte, h6], by simp only [go_sem, Nat.reduceAdd, Nat.reduceSub, Nat.reduceMul, Nat.reduceEqDiff, Nat.reduceLT, Nat.reduceLeDiff, Nat.reduceBEq, reduceCtorEq, Int.reduceToNat, Int.reduceAdd, Int.reduceSub, Int.reduceMul, Int.reduceNeg, Int.reduceLE, Int.reduceLT, Int.reduceEq, ↓reduceIte, h10], by simp only [go_sem, Nat.reduceAdd, Nat.reduceSub, Nat.reduceMul, Nat.reduceEqDiff, Nat.reduceLT, Nat.reduceLeDiff, Nat.reduceBEq, reduceCtorEq, Int.reduceToNat, Int.reduceAdd, Int.reduceSub, Int.reduceMul, Int.reduceNeg, Int.reduceLE, Int.reduceLT, Int.reduceEq, ↓reduceIte, h11], by simp only [go_sem, Nat.reduceAdd, Nat.reduceSub, Nat.reduceMul, Nat.reduceEqDiff, Nat.reduceLT, Nat.reduceLeDiff, Nat.reduceBEq, reduceCtorEq, Int.reduceToNat, Int.reduceAdd, Int.reduceSub, Int.reduceMul, Int.reduceNeg, Int.reduceLE, Int.reduceLT, Int.reduceEq, ↓reduceIte], by simp only [go_sem, Nat.reduceAdd, Nat.reduceSub, Nat.reduceMul, Nat.reduceEqDiff, Nat.reduceLT, Nat.reduceLeDiff, Nat.reduceBEq, reduceCtorEq, Int.reduceToNat, Int.reduceAdd, Int.reduceSub, Int.reduceMul, Int.reduceNeg, Int.reduceLE, Int.reduceLT, Int.reduceEq, ↓reduceIte, h112], ⟨z, by simp only [go_sem, Nat.reduceAdd, Nat.reduceSub, Nat.reduceMul, Nat.reduceEqDiff, Nat.reduceLT, Nat.reduceLeDiff, Nat.reduceBEq, reduceCtorEq, Int.reduceToNat, Int.reduceAdd, Int.reduceSub, Int.reduceMul, Int.reduceNeg, Int.reduceLE, Int.reduceLT, Int.reduceEq, ↓reduceIte, h355]⟩, by simp only [go_sem, Nat.reduceAdd, Nat.reduceSub, Nat.reduceMul, Nat.reduceEqDiff, Nat.reduceLT, Nat.reduceLeDiff, Nat.reduceBEq, reduceCtorEq, Int.reduceToNat, Int.reduceAdd, Int.reduceSub, Int.reduceMul, Int.reduceNeg, Int.reduceLE, Int.reduceLT, Int.reduceEq, ↓reduceIte, h176], z2, by simp only [go_sem, Nat.reduceAdd, Nat.reduceSub, Nat.reduceMul, Nat.reduceEqDiff, Nat.reduceLT, Nat.reduceLeDiff, Nat.reduceBEq, reduceCtorEq, Int.reduceToNat, Int.reduceAdd, Int.reduceSub, Int.reduceMul, Int.reduceNeg, Int.reduceLE, Int.reduceLT, Int.reduceEq, ↓reduceIte, hTo]⟩, by simp only [go_sem, Nat.reduceAdd, Nat.reduceSub, Nat.reduceMul, Nat.reduceEqDiff, Nat.reduceLT, Nat.reduceLeDiff, Nat.reduceBEq, reduceCtorEq, Int.reduceToNat, Int.reduceAdd, Int.reduceSub, Int.reduceMul, Int.reduceNeg, Int.reduceLE, Int.reduceLT, Int.reduceEq, ↓reduceIte, evList, List.range_zero, List.filterMap_nil], by simp only [go_sem, Nat.reduceAdd, Nat.reduceSub, Nat.reduceMul, Nat.reduceEqDiff, Nat.reduceLT, Nat.reduceLeDiff, Nat.reduceBEq, reduceCtorEq, Int.reduceToNat, Int.reduceAdd, Int.reduceSub, Int.reduceMul, Int.reduceNeg, Int.reduceLE, Int.reduceLT, Int.reduceEq, ↓reduceIte], by simp only [go_sem, Nat.reduceAdd, Nat.reduceSub, Nat.reduceMul, Nat.reduceEqDiff, Nat.reduceLT, Nat.reduceLeDiff, Nat.reduceBEq, reduceCtorEq, Int.reduceToNat, Int.reduceAdd, Int.reduceSub, Int.reduceMul, Int.reduceNeg, Int.reduceLE, Int.reduceLT, Int.reduceEq, ↓reduceIte], by simp only [go_sem, Nat.reduceAdd, Nat.reduceSub, Nat.reduceMul, Nat.reduceEqDiff, Nat.reduceLT, Nat.reduceLeDiff, Nat.reduceBEq, reduceCtorEq, Int.reduceToNat, Int.reduceAdd, Int.reduceSub, Int.reduceMul, Int.reduceNeg, Int.reduceLE, Int.reduceLT, Int.reduceEq, ↓reduceIte]⟩
    clear h0 h1 h5 h6 h10 h11 h12 h112 h355 h176 hTo z z2
    clear σ
    rintro m σ ⟨i, rfl, hi, hctx, hout⟩
    by_cases hlt : i < n
    case pos =>
      refine wpc_mono (near_mid hids hn8 hq hlt hall hctx hout) fun e σ' he => ?_
      obtain ⟨rfl, a1, a2⟩ := he
      exact ⟨n - (i + 1), by omega, i + 1, rfl, by omega, a1, a2⟩
    obtain rfl : i = n := by omega
    obtain ⟨h0, h1, h5, h6, h10, h11, h12, h112, ⟨z, h355⟩, h176, z2, hTo⟩ := hctx
    obtain ⟨h13, h99, h100, h101⟩ := hout
    simp only [go_sem, Nat.reduceAdd, Nat.reduceSub, Nat.reduceMul, Nat.reduceEqDiff, Nat.reduceLT, Nat.reduceLeDiff, Nat.reduceBEq, reduceCtorEq, Int.reduceToNat, Int.reduceAdd, Int.reduceSub, Int.reduceMul, Int.reduceNeg, Int.reduceLE, Int.reduceLT, Int.reduceEq, ↓reduceIte, h0, h1, h5, h6, h10, h11, h12, h112, h355, h176, hTo, h13, h99, h100, h101, hlt, List.length_map, hw, len_sl hall, hw]
    refine ⟨_, by simp only [go_sem, Nat.reduceAdd, Nat.reduceSub, Nat.reduceMul, Nat.reduceEqDiff, Nat.reduceLT, Nat.reduceLeDiff, Nat.reduceBEq, reduceCtorEq, Int.reduceToNat, Int.reduceAdd, Int.reduceSub, Int.reduceMul, Int.reduceNeg, Int.reduceLE, Int.reduceLT, Int.reduceEq, ↓reduceIte, h0], by simp only [go_sem, Nat.reduceAdd, Nat.reduceSub, Nat.reduceMul, Nat.reduceEqDiff, Nat.reduceLT, Nat.reduceLeDiff, Nat.reduceBEq, reduceCtorEq, Int.reduceToNat, Int.reduceAdd, Int.reduceSub, Int.reduceMul, Int.reduceNeg, Int.reduceLE, Int.reduceLT, Int.reduceEq, ↓reduceIte, h1], by simp only [go_sem, Nat.reduceAdd, Nat.reduceSub, Nat.reduceMul, Nat.reduceEqDiff, Nat.reduceLT, Nat.reduceLeDiff, Nat.reduceBEq, reduceCtorEq, Int.reduceToNat, Int.reduceAdd, Int.reduceSub, Int.reduceMul, Int.reduceNeg, Int.reduceLE, Int.reduceLT, Int.reduceEq, ↓reduceIte, h5], by simp only [go_sem, Nat.reduceAdd, Nat.reduceSub, Nat.reduceMul, Nat.reduceEqDiff, Nat.reduceLT, Nat.reduceLeDiff, Nat.reduceBEq, reduceCtorEq, Int.reduceToNat, Int.reduceAdd, Int.reduceSub, Int.reduceMul, Int.reduceNeg, Int.reduceLE, Int.reduceLT, Int.reduceEq, ↓reduceIte, h6], by simp only [go_sem, Nat.reduceAdd, Nat.reduceSub, Nat.reduceMul, Nat.reduceEqDiff, Nat.reduceLT, Nat.reduceLeDiff, Nat.reduceBEq, reduceCtorEq, Int.reduceToNat, Int.reduceAdd, Int.reduceSub, Int.reduceMul, Int.reduceNeg, Int.reduceLE, Int.reduceLT, Int.reduceEq, ↓reduceIte, h10], by (first | assumption | rfl | omega | (simp; done) | (simp; omega) | ((simp only [go_sem, Nat.reduceAdd, Nat.reduceSub, Nat.reduceMul, Nat.reduceEqDiff, Nat.reduceLT, Nat.reduceLeDiff, Nat.reduceBEq, reduceCtorEq, Int.reduceToNat, Int.reduceAdd, Int.reduceSub, Int.reduceMul, Int.reduceNeg, Int.reduceLE, Int.reduceLT, Int.reduceEq, ↓reduceIte]); done) | ((simp only [go_sem, Nat.reduceAdd, Nat.reduceSub, Nat.reduceMul, Nat.reduceEqDiff, Nat.reduceLT, Nat.reduceLeDiff, Nat.reduceBEq, reduceCtorEq, Int.reduceToNat, Int.reduceAdd, Int.reduceSub, Int.reduceMul, Int.reduceNeg, Int.reduceLE, Int.reduceLT, Int.reduceEq, ↓reduceIte]); simp; done) | ((simp only [go_sem, Nat.reduceAdd, Nat.reduceSub, Nat.reduceMul, Nat.reduceEqDiff, Nat.reduceLT, Nat.reduceLeDiff, Nat.reduceBEq, reduceCtorEq, Int.reduceToNat, Int.reduceAdd, Int.reduceSub, Int.reduceMul, Int.reduceNeg, Int.reduceLE, Int.reduceLT, Int.reduceEq, ↓reduceIte]); omega)), rfl, by simp only [go_sem, Nat.reduceAdd, Nat.reduceSub, Nat.reduceMul, Nat.reduceEqDiff, Nat.reduceLT, Nat.reduceLeDiff, Nat.reduceBEq, reduceCtorEq, Int.reduceToNat, Int.reduceAdd, Int.reduceSub, Int.reduceMul, Int.reduceNeg, Int.reduceLE, Int.reduceLT, Int.reduceEq, ↓reduceIte, h112], ⟨z, by simp only [go_sem, Nat.reduceAdd, Nat.reduceSub, Nat.reduceMul, Nat.reduceEqDiff, Nat.reduceLT, Nat.reduceLeDiff, Nat.reduceBEq, reduceCtorEq, Int.reduceToNat, Int.reduceAdd, Int.reduceSub, Int.reduceMul, Int.reduceNeg, Int.reduceLE, Int.reduceLT, Int.reduceEq, ↓reduceIte, h355]⟩, by simp only [go_sem, Nat.reduceAdd, Nat.reduceSub, Nat.reduceMul, Nat.reduceEqDiff, Nat.reduceLT, Nat.reduceLeDiff, Nat.reduceBEq, reduceCtorEq, Int.reduceToNat, Int.reduceAdd, Int.reduceSub, Int.reduceMul, Int.reduceNeg, Int.reduceLE, Int.reduceLT, Int.reduceEq, ↓reduceIte, h176], z2, by simp only [go_sem, Nat.reduceAdd, Nat.reduceSub, Nat.reduceMul, Nat.reduceEqDiff, Nat.reduceLT, Nat.reduceLeDiff, Nat.reduceBEq, reduceCtorEq, Int.reduceToNat, Int.reduceAdd, Int.reduceSub, Int.reduceMul, Int.reduceNeg, Int.reduceLE, Int.reduceLT, Int.reduceEq, ↓reduceIte, hTo]⟩
  · rw [if_neg hR] at hallq hallt
    have hall : IsSl 5 ((evList qs d n).map Event.v) (.lit 5 ((evList qs d n).map Event.v)) := .inl rfl
    have hsame := same_ev hall hall (by have : (evList qs d n).length ≤ n := by { simp only [evList]; exact Nat.le_trans (List.length_filterMap_le _ _) (by simp) }
                                        omega)
    simp only [go_sem, Nat.reduceAdd, Nat.reduceSub, Nat.reduceMul, Nat.reduceEqDiff, Nat.reduceLT, Nat.reduceLeDiff, Nat.reduceBEq, reduceCtorEq, Int.reduceToNat, Int.reduceAdd, Int.reduceSub, Int.reduceMul, Int.reduceNeg, Int.reduceLE, Int.reduceLT, Int.reduceEq, ↓reduceIte, h0, h1, h5, h6, h10, h11, h12, h112, h355, h176, hTo, hd, List.length_map, hw, hq, ht, hwinq, hwint, h0]
    simp only [go_sem, Nat.reduceAdd, Nat.reduceSub, Nat.reduceMul, Nat.reduceEqDiff, Nat.reduceLT, Nat.reduceLeDiff, Nat.reduceBEq, reduceCtorEq, Int.reduceToNat, Int.reduceAdd, Int.reduceSub, Int.reduceMul, Int.reduceNeg, Int.reduceLE, Int.reduceLT, Int.reduceEq, ↓reduceIte, doCall, wpa_call, wpf_call, prepare.eq_1, prepare.eq_2, prepare.eq_3, prepare.eq_4, prepare.eq_5, prepare.eq_6, prepare.eq_7, snap, snapV_pure, snapV.eq_2, snapV.eq_3, snapV.eq_4, snapV.eq_5, snapV.eq_6, snapV.eq_7, snapL.eq_1, snapL.eq_2, snapAll, E_9, f9, h6, h112, h355, hwinq, hq, List.length_map, Place.pures]
    refine ⟨_, hallq, ?_⟩
    simp only [go_sem, Nat.reduceAdd, Nat.reduceSub, Nat.reduceMul, Nat.reduceEqDiff, Nat.reduceLT, Nat.reduceLeDiff, Nat.reduceBEq, reduceCtorEq, Int.reduceToNat, Int.reduceAdd, Int.reduceSub, Int.reduceMul, Int.reduceNeg, Int.reduceLE, Int.reduceLT, Int.reduceEq, ↓reduceIte, h0, h1, h5, h6, h10, h11, h12, h112, h355, h176, hTo, hd, List.length_map, hw, hq, ht, hwinq, hwint, h0, hsc]
    simp only [go_sem, Nat.reduceAdd, Nat.reduceSub, Nat.reduceMul, Nat.reduceEqDiff, Nat.reduceLT, Nat.reduceLeDiff, Nat.reduceBEq, reduceCtorEq, Int.reduceToNat, Int.reduceAdd, Int.reduceSub, Int.reduceMul, Int.reduceNeg, Int.reduceLE, Int.reduceLT, Int.reduceEq, ↓reduceIte, doCall, wpa_call, wpf_call, prepare.eq_1, prepare.eq_2, prepare.eq_3, prepare.eq_4, prepare.eq_5, prepare.eq_6, prepare.eq_7, snap, snapV_pure, snapV.eq_2, snapV.eq_3, snapV.eq_4, snapV.eq_5, snapV.eq_6, snapV.eq_7, snapL.eq_1, snapL.eq_2, snapAll, E_9, f9, h10, h11, h176, hTo, hwint, ht, List.length_map, Place.pures]
    refine ⟨_, hallt, ?_⟩
    simp only [go_sem, Nat.reduceAdd, Nat.reduceSub, Nat.reduceMul, Nat.reduceEqDiff, Nat.reduceLT, Nat.reduceLeDiff, Nat.reduceBEq, reduceCtorEq, Int.reduceToNat, Int.reduceAdd, Int.reduceSub, Int.reduceMul, Int.reduceNeg, Int.reduceLE, Int.reduceLT, Int.reduceEq, ↓reduceIte, h0, h1, h5, h6, h10, h11, h12, h112, h355, h176, hTo, hd, List.length_map, hw, hq, ht, hwinq, hwint, h0, hsc]
    refine wpa_pure E_10 rfl (by simp [V.arePure, hall.pure]) hsame ?_
    simp only [go_sem, Nat.reduceAdd, Nat.reduceSub, Nat.reduceMul, Nat.reduceEqDiff, Nat.reduceLT, Nat.reduceLeDiff, Nat.reduceBEq, reduceCtorEq, Int.reduceToNat, Int.reduceAdd, Int.reduceSub, Int.reduceMul, Int.reduceNeg, Int.reduceLE, Int.reduceLT, Int.reduceEq, ↓reduceIte, h0, h1, h5, h6, h10, h11, h12, h112, h355, h176, hTo, hd, List.length_map, hw, hq, ht, hwinq, hwint, h0]
    refine wpc_loop_of (fun m σ => ∃ i : Nat, m = n - i ∧ i ≤ n ∧ NearCtx sv t qs n d (.lit 5 ((evList qs d n).map Event.v)) (.sl 1184 g 0 n) (To_1184 g ts) σ ∧ NearOut i (evList qs d i).length n σ) ?_ n _ ?_
    case refine_2 => exact ⟨0, by simp, by simp, ⟨by simp only [go_sem, Nat.reduceAdd, Nat.reduceSub, Nat.reduceMul, Nat.reduceEqDiff, Nat.reduceLT, Nat.reduceLeDiff, Nat.reduceBEq, reduceCtorEq, Int.reduceToNat, Int.reduceAdd, Int.reduceSub, Int.reduceMul, Int.reduceNeg, Int.reduceLE, Int.reduceLT, Int.reduceEq, ↓reduceIte, h0], by simp only [go_sem, Nat.reduceAdd, Nat.reduceSub, Nat.reduceMul, Nat.reduceEqDiff, Nat.reduceLT, Nat.reduceLeDiff, Nat.reduceBEq, reduceCtorEq, Int.reduceToNat, Int.reduceAdd, Int.reduceSub, Int.reduceMul, Int.reduceNeg, Int.reduceLE, Int.reduceLT, Int.reduceEq, ↓reduceIte, h1], by simp only [go_sem, Nat.reduceAdd, Nat.reduceSub, Nat.reduceMul, Nat.reduceEqDiff, Nat.reduceLT, Nat.reduceLeDiff, Nat.reduceBEq, reduceCtorEq, Int.reduceToNat, Int.reduceAdd, Int.reduceSub, Int.reduceMul, Int.reduceNeg, Int.reduceLE, Int.reduceLT, Int.reduceEq, ↓reduceIte, h5], by simp only [go_sem, Nat.reduceAdd, Nat.reduceSub, Nat.reduceMul, Nat.reduceEqDiff, Nat.reduceLT, Nat.reduceLeDiff, Nat.reduceBEq, reduceCtorEq, Int.reduceToNat, Int.reduceAdd, Int.reduceSub, Int.reduceMul, Int.reduceNeg, Int.reduceLE, Int.reduceLT, Int.reduceEq, ↓reduceIte, h6], by simp only [go_sem, Nat.reduceAdd, Nat.reduceSub, Nat.reduceMul, Nat.reduceEqDiff, Nat.reduceLT, Nat.reduceLeDiff, Nat.reduceBEq, reduceCtorEq, Int.reduceToNat, Int.reduceAdd, Int.reduceSub, Int.reduceMul, Int.reduceNeg, Int.reduceLE, Int.reduceLT, Int.reduceEq, ↓reduceIte, h10], by simp only [go_sem, Nat.reduceAdd, Nat.reduceSub, Nat.reduceMul, Nat.reduceEqDiff, Nat.reduceLT, Nat.reduceLeDiff, Nat.reduceBEq, reduceCtorEq, Int.reduceToNat, Int.reduceAdd, Int.reduceSub, Int.reduceMul, Int.reduceNeg, Int.reduceLE, Int.reduceLT, Int.reduceEq, ↓reduceIte, h11], by simp only [go_sem, Nat.reduceAdd, Nat.reduceSub, Nat.reduceMul, Nat.reduceEqDiff, Nat.reduceLT, Nat.reduceLeDiff, Nat.reduceBEq, reduceCtorEq, Int.reduceToNat, Int.reduceAdd, Int.reduceSub, Int.reduceMul, Int.reduceNeg, Int.reduceLE, Int.reduceLT, Int.reduceEq, ↓reduceIte], by simp only [go_sem, Nat.reduceAdd, Nat.reduceSub, Nat.reduceMul, Nat.reduceEqDiff, Nat.reduceLT, Nat.reduceLeDiff, Nat.reduceBEq, reduceCtorEq, Int.reduceToNat, Int.reduceAdd, Int.reduceSub, Int.reduceMul, Int.reduceNeg, Int.reduceLE, Int.reduceLT, Int.reduceEq, ↓reduceIte, h112], ⟨true, by simp only [go_sem, Nat.reduceAdd, Nat.reduceSub, Nat.reduceMul, Nat.reduceEqDiff, Nat.reduceLT, Nat.reduceLeDiff, Nat.reduceBEq, reduceCtorEq, Int.reduceToNat, Int.reduceAdd, Int.reduceSub, Int.reduceMul, Int.reduceNeg, Int.reduceLE, Int.reduceLT, Int.reduceEq, ↓reduceIte, h355]⟩, by simp only [go_sem, Nat.reduceAdd, Nat.reduceSub, Nat.reduceMul, Nat.reduceEqDiff, Nat.reduceLT, Nat.reduceLeDiff, Nat.reduceBEq, reduceCtorEq, Int.reduceToNat, Int.reduceAdd, Int.reduceSub, Int.reduceMul, Int.reduceNeg, Int.reduceLE, Int.reduceLT, Int.reduceEq, ↓reduceIte, h176], true, by simp only [go_sem, Nat.reduceAdd, Nat.reduceSub, Nat.reduceMul, Nat.reduceEqDiff, Nat.reduceLT, Nat.reduceLeDiff, Nat.reduceBEq, reduceCtorEq, Int.reduceToNat, Int.reduceAdd, Int.reduceSub, Int.reduceMul, Int.reduceNeg, Int.reduceLE, Int.reduceLT, Int.reduceEq, ↓reduceIte, hTo]⟩, by simp only [go_sem, Nat.reduceAdd, Nat.reduceSub, Nat.reduceMul, Nat.reduceEqDiff, Nat.reduceLT, Nat.reduceLeDiff, Nat.reduceBEq, reduceCtorEq, Int.reduceToNat, Int.reduceAdd, Int.reduceSub, Int.reduceMul, Int.reduceNeg, Int.reduceLE, Int.reduceLT, Int.reduceEq, ↓reduceIte, evList, List.range_zero, List.filterMap_nil], by simp only [go_sem, Nat.reduceAdd, Nat.reduceSub, Nat.reduceMul, Nat.reduceEqDiff, Nat.reduceLT, Nat.reduceLeDiff, Nat.reduceBEq, reduceCtorEq, Int.reduceToNat, Int.reduceAdd, Int.reduceSub, Int.reduceMul, Int.reduceNeg, Int.reduceLE, Int.reduceLT, Int.reduceEq, ↓reduceIte], by simp only [go_sem, Nat.reduceAdd, Nat.reduceSub, Nat.reduceMul, Nat.reduceEqDiff, Nat.reduceLT, Nat.reduceLeDiff, Nat.reduceBEq, reduceCtorEq, Int.reduceToNat, Int.reduceAdd, Int.reduceSub, Int.reduceMul, Int.reduceNeg, Int.reduceLE, Int.reduceLT, Int.reduceEq, ↓reduceIte], by simp only [go_sem, Nat.reduceAdd, Nat.reduceSub, Nat.reduceMul, Nat.reduceEqDiff, Nat.reduceLT, Nat.reduceLeDiff, Nat.reduceBEq, reduceCtorEq, Int.reduceToNat, Int.reduceAdd, Int.reduceSub, Int.reduceMul, Int.reduceNeg, Int.reduceLE, Int.reduceLT, Int.reduceEq, ↓reduceIte]⟩
    clear h0 h1 h5 h6 h10 h11 h12 h112 h355 h176 hTo z z2
    clear σ
    rintro m σ ⟨i, rfl, hi, hctx, hout⟩
    by_cases hlt : i < n
    case pos =>
      refine wpc_mono (near_mid hids hn8 hq hlt hall hctx hout) fun e σ' he => ?_
      obtain ⟨rfl, a1, a2⟩ := he
      exact ⟨n - (i + 1), by omega, i + 1, rfl, by omega, a1, a2⟩
    obtain rfl : i = n := by omega
    obtain ⟨h0, h1, h5, h6, h10, h11, h12, h112, ⟨z, h355⟩, h176, z2, hTo⟩ := hctx
    obtain ⟨h13, h99, h100, h101⟩ := hout
    simp only [go_sem, Nat.reduceAdd, Nat.reduceSub, Nat.reduceMul, Nat.reduceEqDiff, Nat.reduceLT, Nat.reduceLeDiff, Nat.reduceBEq, reduceCtorEq, Int.reduceToNat, Int.reduceAdd, Int.reduceSub, Int.reduceMul, Int.reduceNeg, Int.reduceLE, Int.reduceLT, Int.reduceEq, ↓reduceIte, h0, h1, h5, h6, h10, h11, h12, h112, h355, h176, hTo, h13, h99, h100, h101, hlt, List.length_map, hw, len_sl hall, hw]
    refine ⟨_, by simp only [go_sem, Nat.reduceAdd, Nat.reduceSub, Nat.reduceMul, Nat.reduceEqDiff, Nat.reduceLT, Nat.reduceLeDiff, Nat.reduceBEq, reduceCtorEq, Int.reduceToNat, Int.reduceAdd, Int.reduceSub, Int.reduceMul, Int.reduceNeg, Int.reduceLE, Int.reduceLT, Int.reduceEq, ↓reduceIte, h0], by simp only [go_sem, Nat.reduceAdd, Nat.reduceSub, Nat.reduceMul, Nat.reduceEqDiff, Nat.reduceLT, Nat.reduceLeDiff, Nat.reduceBEq, reduceCtorEq, Int.reduceToNat, Int.reduceAdd, Int.reduceSub, Int.reduceMul, Int.reduceNeg, Int.reduceLE, Int.reduceLT, Int.reduceEq, ↓reduceIte, h1], by simp only [go_sem, Nat.reduceAdd, Nat.reduceSub, Nat.reduceMul, Nat.reduceEqDiff, Nat.reduceLT, Nat.reduceLeDiff, Nat.reduceBEq, reduceCtorEq, Int.reduceToNat, Int.reduceAdd, Int.reduceSub, Int.reduceMul, Int.reduceNeg, Int.reduceLE, Int.reduceLT, Int.reduceEq, ↓reduceIte, h5], by simp only [go_sem, Nat.reduceAdd, Nat.reduceSub, Nat.reduceMul, Nat.reduceEqDiff, Nat.reduceLT, Nat.reduceLeDiff, Nat.reduceBEq, reduceCtorEq, Int.reduceToNat, Int.reduceAdd, Int.reduceSub, Int.reduceMul, Int.reduceNeg, Int.reduceLE, Int.reduceLT, Int.reduceEq, ↓reduceIte, h6], by simp only [go_sem, Nat.reduceAdd, Nat.reduceSub, Nat.reduceMul, Nat.reduceEqDiff, Nat.reduceLT, Nat.reduceLeDiff, Nat.reduceBEq, reduceCtorEq, Int.reduceToNat, Int.reduceAdd, Int.reduceSub, Int.reduceMul, Int.reduceNeg, Int.reduceLE, Int.reduceLT, Int.reduceEq, ↓reduceIte, h10], by (first | assumption | rfl | omega | (simp; done) | (simp; omega) | ((simp only [go_sem, Nat.reduceAdd, Nat.reduceSub, Nat.reduceMul, Nat.reduceEqDiff, Nat.reduceLT, Nat.reduceLeDiff, Nat.reduceBEq, reduceCtorEq, Int.reduceToNat, Int.reduceAdd, Int.reduceSub, Int.reduceMul, Int.reduceNeg, Int.reduceLE, Int.reduceLT, Int.reduceEq, ↓reduceIte]); done) | ((simp only [go_sem, Nat.reduceAdd, Nat.reduceSub, Nat.reduceMul, Nat.reduceEqDiff, Nat.reduceLT, Nat.reduceLeDiff, Nat.reduceBEq, reduceCtorEq, Int.reduceToNat, Int.reduceAdd, Int.reduceSub, Int.reduceMul, Int.reduceNeg, Int.reduceLE, Int.reduceLT, Int.reduceEq, ↓reduceIte]); simp; done) | ((simp only [go_sem, Nat.reduceAdd, Nat.reduceSub, Nat.reduceMul, Nat.reduceEqDiff, Nat.reduceLT, Nat.reduceLeDiff, Nat.reduceBEq, reduceCtorEq, Int.reduceToNat, Int.reduceAdd, Int.reduceSub, Int.reduceMul, Int.reduceNeg, Int.reduceLE, Int.reduceLT, Int.reduceEq, ↓reduceIte]); omega)), rfl, by simp only [go_sem, Nat.reduceAdd, Nat.reduceSub, Nat.reduceMul, Nat.reduceEqDiff, Nat.reduceLT, Nat.reduceLeDiff, Nat.reduceBEq, reduceCtorEq, Int.reduceToNat, Int.reduceAdd, Int.reduceSub, Int.reduceMul, Int.reduceNeg, Int.reduceLE, Int.reduceLT, Int.reduceEq, ↓reduceIte, h112], ⟨z, by simp only [go_sem, Nat.reduceAdd, Nat.reduceSub, Nat.reduceMul, Nat.reduceEqDiff, Nat.reduceLT, Nat.reduceLeDiff, Nat.reduceBEq, reduceCtorEq, Int.reduceToNat, Int.reduceAdd, Int.reduceSub, Int.reduceMul, Int.reduceNeg, Int.reduceLE, Int.reduceLT, Int.reduceEq, ↓reduceIte, h355]⟩, by simp only [go_sem, Nat.reduceAdd, Nat.reduceSub, Nat.reduceMul, Nat.reduceEqDiff, Nat.reduceLT, Nat.reduceLeDiff, Nat.reduceBEq, reduceCtorEq, Int.reduceToNat, Int.reduceAdd, Int.reduceSub, Int.reduceMul, Int.reduceNeg, Int.reduceLE, Int.reduceLT, Int.reduceEq, ↓reduceIte, h176], z2, by simp only [go_sem, Nat.reduceAdd, Nat.reduceSub, Nat.reduceMul, Nat.reduceEqDiff, Nat.reduceLT, Nat.reduceLeDiff, Nat.reduceBEq, reduceCtorEq, Int.reduceToNat, Int.reduceAdd, Int.reduceSub, Int.reduceMul, Int.reduceNeg, Int.reduceLE, Int.reduceLT, Int.reduceEq, ↓reduceIte, hTo]⟩

end Go.AM

/-
  gather: the events of a district do not hang on the order of the places. Own work.
-/
set_option linter.unusedSimpArgs false
namespace Go.AM

/-- places numbered by their position, their coordinates small -/
def Nrm (i : Nat) (q : Place) : Prop := q.id = i ∧ 1 ≤ q.dist ∧ q.dist ≤ 2 ∧ (-500 < q.x ∧ q.x < 500) ∧ (-500 < q.y ∧ q.y < 500)


def Dst (ps : List Place) : Prop := ∀ (i j : Nat) (a b : Place), ps[i]? = some a → ps[j]? = some b → a.id = b.id → i = j

theorem findP_dst {ps : List Place} (h : Dst ps) {j : Nat} {o : Place} (ho : ps[j]? = some o) : findP ps o.id = j := by
  unfold findP
  refine firstIdx_found (x := o) ?_ ho (by simp)
  intro i y hi hy
  have : i = j ∨ y.id ≠ o.id := by
    by_cases e : y.id = o.id
    · exact .inl (h i j y o hy ho e)
    · exact .inr e
  rcases this with h1 | h1
  · omega
  · simpa using h1

theorem canP_dst {ps : List Place} (h : Dst ps) {i j : Nat} {p o : Place} (hp : ps[i]? = some p) (ho : ps[j]? = some o) : canP ps p.id o.id = canPP p.id o.id p o := by
  unfold canP
  rw [findP_dst h hp, findP_dst h ho, if_pos ⟨by omega, by omega⟩]
  simp [hp, ho]

theorem canList_iff {ps : List Place} (h : Dst ps) {p : Place} (hp : p ∈ ps) (o : Place) : o ∈ canList ps p ps.length ↔ o ∈ ps ∧ canPP p.id o.id p o = 0 := by
  obtain ⟨i, hi⟩ := List.mem_iff_getElem?.1 hp
  rw [canList, List.mem_filterMap]
  constructor
  · rintro ⟨j, _, hj⟩
    unfold canAt at hj
    split at hj
    · rename_i o' ho
      split at hj
      · rename_i hc
        injection hj with hj; subst hj
        rw [canP_dst h hi ho] at hc
        exact ⟨List.mem_iff_getElem?.2 ⟨j, ho⟩, hc.2⟩
      · simp at hj
    · simp at hj
  · rintro ⟨ho, hc⟩
    obtain ⟨j, hj⟩ := List.mem_iff_getElem?.1 ho
    refine ⟨j, by simpa using (List.getElem?_eq_some_iff.1 hj).1, ?_⟩
    simp [canAt, hj, findP_dst h hj, canP_dst h hi hj, hc]

theorem cmpFrom_neg (p a b : Place) : cmpFrom p a b < 0 ↔ sqP p a < sqP p b ∨ sqP p a = sqP p b ∧ a.id < b.id := by
  unfold cmpFrom orI cmpI
  generalize sqP p a = x
  generalize sqP p b = y
  generalize a.id = u
  generalize b.id = v
  by_cases h1 : x < y
  · simp [h1]
  · by_cases h2 : y < x
    · simp [h1, h2]; omega
    · have : x = y := by omega
      subst this
      by_cases h3 : u < v
      · simp [h3]
      · by_cases h4 : v < u
        · simp [h3, h4]
        · simp [h3, h4]

theorem minF_least (p : Place) : ∀ (l : List Place) (x : Place), ∀ y ∈ x :: l, ¬ cmpFrom p y (minF (cmpFrom p) l x) < 0
  | [], x, y, hy => by
    obtain rfl : y = x := by simpa using hy
    simp only [minF, List.foldl_nil]
    rw [cmpFrom_neg]; omega
  | z :: l, x, y, hy => by
    have ih := minF_least p l (if cmpFrom p z x < 0 then z else x)
    have e : minF (cmpFrom p) (z :: l) x = minF (cmpFrom p) l (if cmpFrom p z x < 0 then z else x) := rfl
    rw [e]
    have i0 := ih _ (List.mem_cons_self ..)
    rw [cmpFrom_neg] at i0 ⊢
    rcases List.mem_cons.1 hy with rfl | hy
    · split at i0
      · rename_i hc; rw [if_pos hc]; rw [cmpFrom_neg] at hc; omega
      · rename_i hc; rw [if_neg hc]; exact i0
    · rcases List.mem_cons.1 hy with rfl | hy
      · split at i0
        · rename_i hc; rw [if_pos hc]; exact i0
        · rename_i hc; rw [if_neg hc]; rw [cmpFrom_neg] at hc; omega
      · have := ih y (by simp [hy])
        rw [cmpFrom_neg] at this
        exact this

theorem id_inj {ps : List Place} (h : Dst ps) {a b : Place} (ha : a ∈ ps) (hb : b ∈ ps) (e : a.id = b.id) : a = b := by
  obtain ⟨i, hi⟩ := List.mem_iff_getElem?.1 ha
  obtain ⟨j, hj⟩ := List.mem_iff_getElem?.1 hb
  have := h i j a b hi hj e
  subst this
  rw [hi] at hj; injection hj

theorem best_same {ps rs : List Place} (h : Dst ps) (h' : Dst rs) (hm : ∀ x, x ∈ ps ↔ x ∈ rs) {p : Place} (hp : p ∈ ps) : bestOf ps p ps.length = bestOf rs p rs.length := by
  have hc : ∀ o, o ∈ canList ps p ps.length ↔ o ∈ canList rs p rs.length := fun o => by
    rw [canList_iff h hp, canList_iff h' ((hm p).1 hp), hm]
  have hin : ∀ o, o ∈ canList ps p ps.length → o ∈ ps := fun o ho => ((canList_iff h hp o).1 ho).1
  unfold bestOf
  generalize canList ps p ps.length = L at hc hin
  generalize canList rs p rs.length = L' at hc
  cases L with
  | nil => cases L' with
    | nil => rfl
    | cons y ys => exact absurd ((hc y).2 (by simp)) (by simp)
  | cons x xs => cases L' with
    | nil => exact absurd ((hc x).1 (by simp)) (by simp)
    | cons y ys =>
      have m1 := minF_mem (cmpFrom p) xs x
      have m2 := minF_mem (cmpFrom p) ys y
      have l1 := minF_least p xs x _ ((hc _).2 m2)
      have l2 := minF_least p ys y _ ((hc _).1 m1)
      rw [cmpFrom_neg] at l1 l2
      have := id_inj h (hin _ m1) (hin _ ((hc _).2 m2)) (by omega)
      simp [this]

theorem evOf_same {ps rs : List Place} (h : Dst ps) (h' : Dst rs) (hm : ∀ x, x ∈ ps ↔ x ∈ rs) {p : Place} (hp : p ∈ ps) : evOf ps p = evOf rs p := by
  rw [evOf_best, evOf_best, best_same h h' hm hp]

theorem evOf_id {ps : List Place} {p : Place} {e : Event} (h : evOf ps p = some e) : e.id = p.id := by
  rw [evOf_best] at h
  split at h
  · simp at h
  · injection h with h; subst h; rfl

theorem evList_iff {ps : List Place} (h : Dst ps) (d : Int) (e : Event) : e ∈ evList ps d ps.length ↔ ∃ p, p ∈ ps ∧ p.dist = d ∧ evOf ps p = some e := by
  rw [evList, List.mem_filterMap]
  constructor
  · rintro ⟨j, _, hj⟩
    unfold evAt at hj
    split at hj
    · rename_i p hp
      split at hj
      · rename_i hc
        exact ⟨p, List.mem_iff_getElem?.2 ⟨j, hp⟩, hc.1, hj⟩
      · simp at hj
    · simp at hj
  · rintro ⟨p, hp, hd, he⟩
    obtain ⟨j, hj⟩ := List.mem_iff_getElem?.1 hp
    refine ⟨j, by simpa using (List.getElem?_eq_some_iff.1 hj).1, ?_⟩
    simp [evAt, hj, hd, findP_dst h hj, he]

theorem evAt_id {ps : List Place} {d : Int} {j : Nat} {e : Event} (h : evAt ps d j = some e) : ∃ p, ps[j]? = some p ∧ e.id = p.id := by
  unfold evAt at h
  split at h
  · rename_i p hp
    split at h
    · exact ⟨p, hp, evOf_id h⟩
    · simp at h
  · simp at h

theorem evList_ne {ps : List Place} (h : Dst ps) (d : Int) : (evList ps d ps.length).Pairwise (fun a b => a.id ≠ b.id) := by
  rw [evList, List.pairwise_filterMap]
  refine List.Pairwise.imp ?_ List.pairwise_lt_range
  intro i j hij a ha b hb e
  obtain ⟨p, hp, h1⟩ := evAt_id ha
  obtain ⟨q, hq, h2⟩ := evAt_id hb
  have := h i j p q hp hq (by omega)
  omega

theorem evList_lt {ps : List Place} (h : ∀ (i : Nat) (q : Place), ps[i]? = some q → q.id = i) (d : Int) : (evList ps d ps.length).Pairwise (fun a b => a.id < b.id) := by
  rw [evList, List.pairwise_filterMap]
  refine List.Pairwise.imp ?_ List.pairwise_lt_range
  intro i j hij a ha b hb
  obtain ⟨p, hp, h1⟩ := evAt_id ha
  obtain ⟨q, hq, h2⟩ := evAt_id hb
  have := h i p hp
  have := h j q hq
  omega

theorem eq_of_lt : ∀ (l1 l2 : List Event), l1.Pairwise (fun a b => a.id < b.id) → l2.Pairwise (fun a b => a.id < b.id) → (∀ e, e ∈ l1 ↔ e ∈ l2) → l1 = l2
  | [], [], _, _, _ => rfl
  | [], y :: l2, _, _, h => absurd ((h y).2 (by simp)) (by simp)
  | x :: l1, [], _, _, h => absurd ((h x).1 (by simp)) (by simp)
  | x :: l1, y :: l2, h1, h2, h => by
    rw [List.pairwise_cons] at h1 h2
    have hxy : x = y := by
      rcases List.mem_cons.1 ((h x).1 (by simp)) with e | e
      · exact e
      · rcases List.mem_cons.1 ((h y).2 (by simp)) with e' | e'
        · exact e'.symm
        · have := h2.1 x e; have := h1.1 y e'; omega
    subst hxy
    rw [eq_of_lt l1 l2 h1.2 h2.2 fun e => ?_]
    constructor
    · intro he
      rcases List.mem_cons.1 ((h e).1 (by simp [he])) with r | r
      · subst r; have := h1.1 _ he; omega
      · exact r
    · intro he
      rcases List.mem_cons.1 ((h e).2 (by simp [he])) with r | r
      · subst r; have := h2.1 _ he; omega
      · exact r

theorem cmpId_neg (a b : Event) : cmpId a b < 0 ↔ a.id < b.id := by
  unfold cmpId cmpI
  split
  · simp [*]
  · split <;> simp [*]

theorem sink_perm {α : Type} (c : α → α → Int) : ∀ (j : Nat) (l : List α), (sink c j l).Perm l
  | 0, l => .refl _
  | j + 1, l => by
    simp only [sink]
    split
    · rename_i a b ha hb
      split
      · refine (sink_perm c j _).trans ?_
        obtain ⟨h1, rfl⟩ := List.getElem?_eq_some_iff.1 ha
        obtain ⟨h2, rfl⟩ := List.getElem?_eq_some_iff.1 hb
        exact List.set_set_perm h1 h2
      · exact .refl _
    · exact .refl _
theorem isortN_perm {α : Type} (c : α → α → Int) : ∀ (n i : Nat) (l : List α), (isortN c n i l).Perm l
  | 0, _, _ => .refl _
  | n + 1, i, l => (isortN_perm c n (i + 1) _).trans (sink_perm c i l)

/-- the first m, but for place j, stand in order -/
def SrtBut (l : List Event) (m j : Nat) : Prop := ∀ (x y : Nat) (a b : Event), x < y → y < m → y ≠ j → l[x]? = some a → l[y]? = some b → a.id ≤ b.id
def Srt (l : List Event) (m : Nat) : Prop := ∀ (x y : Nat) (a b : Event), x < y → y < m → l[x]? = some a → l[y]? = some b → a.id ≤ b.id

theorem sink_srt : ∀ (j : Nat) (l : List Event) (m : Nat), j < m → m ≤ l.length → SrtBut l m j → Srt (sink cmpId j l) m
  | 0, l, m, _, _, h => fun x y a b hxy hy ha hb => h x y a b hxy hy (by omega) ha hb
  | j + 1, l, m, hj, hm, h => by
    obtain ⟨a, ha⟩ : ∃ a, l[j + 1]? = some a := ⟨_, List.getElem?_eq_getElem (by omega)⟩
    obtain ⟨b, hb⟩ : ∃ b, l[j]? = some b := ⟨_, List.getElem?_eq_getElem (by omega)⟩
    simp only [sink, ha, hb, cmpId_neg]
    have hset : ∀ x, ((l.set (j + 1) b).set j a)[x]? = if x = j then some a else if x = j + 1 then some b else l[x]? := by
      intro x
      rw [List.getElem?_set, List.getElem?_set]
      by_cases e1 : j = x
      · subst e1; simp; omega
      · by_cases e2 : j + 1 = x
        · subst e2; simp; omega
        · simp [e1, e2, Ne.symm e1, Ne.symm e2]
    split
    · rename_i hab
      refine sink_srt j _ m (by omega) (by simp; omega) ?_
      intro x y c e hxy hy hyj hc he
      rw [hset] at hc he
      rw [if_neg hyj] at he
      by_cases e1 : y = j + 1
      · rw [if_pos e1] at he
        injection he with he; subst he
        by_cases e2 : x = j
        · rw [if_pos e2] at hc; injection hc with hc; subst hc; omega
        · rw [if_neg e2, if_neg (by omega)] at hc
          exact h x j c b (by omega) (by omega) (by omega) hc hb
      · rw [if_neg e1] at he
        by_cases e2 : x = j
        · rw [if_pos e2] at hc; injection hc with hc; subst hc
          exact h (j + 1) y a e (by omega) hy e1 ha he
        · rw [if_neg e2] at hc
          by_cases e3 : x = j + 1
          · rw [if_pos e3] at hc; injection hc with hc; subst hc
            exact h j y b e (by omega) hy e1 hb he
          · rw [if_neg e3] at hc
            exact h x y c e hxy hy e1 hc he
    · rename_i hab
      intro x y c e hxy hy hc he
      by_cases e1 : y = j + 1
      · subst e1
        rw [ha] at he; injection he with he; subst he
        by_cases e2 : x = j
        · subst e2; rw [hb] at hc; injection hc with hc; subst hc; omega
        · have := h x j c b (by omega) (by omega) (by omega) hc hb
          omega
      · exact h x y c e hxy hy e1 hc he

theorem isortN_srt : ∀ (n i : Nat) (l : List Event), i + n = l.length → Srt l i → Srt (isortN cmpId n i l) l.length
  | 0, i, l, hi, h => by rw [show l.length = i by omega]; exact h
  | n + 1, i, l, hi, h => by
    have hs : Srt (sink cmpId i l) (i + 1) := sink_srt i l (i + 1) (by omega) (by omega) fun x y a b hxy hy hyi ha hb => h x y a b hxy (by omega) ha hb
    have := isortN_srt n (i + 1) (sink cmpId i l) (by rw [sink_length]; omega) hs
    rw [sink_length] at this
    exact this

theorem isort_lt {l : List Event} (h : l.Pairwise (fun a b => a.id ≠ b.id)) : (isort cmpId l).Pairwise (fun a b => a.id < b.id) ∧ ∀ e, e ∈ isort cmpId l ↔ e ∈ l := by
  have hp : (isort cmpId l).Perm l := isortN_perm _ _ _ _
  refine ⟨?_, fun e => hp.mem_iff⟩
  have hne : (isort cmpId l).Pairwise (fun a b => a.id ≠ b.id) := (hp.pairwise_iff (fun h => Ne.symm h)).2 h
  cases l with
  | nil => exact .nil
  | cons x xs =>
    have hs : Srt (isort cmpId (x :: xs)) (x :: xs).length := isortN_srt _ 1 _ (by simp; omega) (fun i j a b h1 h2 => by omega)
    rw [← hp.length_eq] at hs
    rw [List.pairwise_iff_getElem] at hne ⊢
    intro i j hi hj hij
    have h1 := hne i j hi hj hij
    have h2 := hs i j _ _ hij hj (List.getElem?_eq_getElem hi) (List.getElem?_eq_getElem hj)
    omega

theorem dst_turn {qs : List Place} (h : Dst qs) (k : Nat) : Dst (qs.drop k ++ qs.take k) := by
  have key : ∀ i a, (qs.drop k ++ qs.take k)[i]? = some a → ∃ j, qs[j]? = some a ∧ ((i < qs.length - k ∧ j = k + i) ∨ (¬ i < qs.length - k ∧ j = i - (qs.length - k) ∧ j < k)) := by
    intro i a ha
    rw [List.getElem?_append] at ha
    rw [List.length_drop] at ha
    split at ha
    · rw [List.getElem?_drop] at ha
      exact ⟨_, ha, .inl ⟨by assumption, rfl⟩⟩
    · rw [List.getElem?_take] at ha
      split at ha
      · exact ⟨_, ha, .inr ⟨by assumption, rfl, by assumption⟩⟩
      · simp at ha
  intro i j a b ha hb e
  obtain ⟨i', hi, ci⟩ := key i a ha
  obtain ⟨j', hj, cj⟩ := key j b hb
  have := h i' j' a b hi hj e
  omega

theorem near_law {qs : List Place} (hn : ∀ (i : Nat) (q : Place), qs[i]? = some q → Nrm i q) {k : Nat} (hk : k ≤ qs.length) (d : Int) :
    allP qs d = evList qs d qs.length ∧ allP (qs.drop k ++ qs.take k) d = allP qs d := by
  have hid : ∀ (i : Nat) (q : Place), qs[i]? = some q → q.id = i := fun i q h => (hn i q h).1
  have hd : Dst qs := fun i j a b ha hb e => by
    have := hid i a ha; have := hid j b hb; omega
  have hd' := dst_turn hd k
  have hm : ∀ x, x ∈ qs.drop k ++ qs.take k ↔ x ∈ qs := fun x => by
    rw [List.mem_append, or_comm, ← List.mem_append, List.take_append_drop]
  have a1 := isort_lt (evList_ne hd d)
  have a2 := isort_lt (evList_ne hd' d)
  refine ⟨eq_of_lt _ _ a1.1 (evList_lt hid d) a1.2, eq_of_lt _ _ a2.1 a1.1 fun e => ?_⟩
  have m1 : e ∈ allP qs d ↔ e ∈ evList qs d qs.length := a1.2 e
  have m2 : e ∈ allP (qs.drop k ++ qs.take k) d ↔ e ∈ evList (qs.drop k ++ qs.take k) d (qs.drop k ++ qs.take k).length := a2.2 e
  rw [m1, m2, evList_iff hd', evList_iff hd]
  constructor
  · rintro ⟨p, hp, h1, h2⟩
    exact ⟨p, (hm p).1 hp, h1, by rw [← evOf_same hd' hd hm hp]; exact h2⟩
  · rintro ⟨p, hp, h1, h2⟩
    have hp' := (hm p).2 hp
    exact ⟨p, hp', h1, by rw [evOf_same hd' hd hm hp']; exact h2⟩
end Go.AM

/-
  hachurelaw15: GatherNearest. Own work.
-/
set_option linter.unusedSimpArgs false
namespace Go.AM

def and1 (w : Int) : Int := IntKind.i64.wrap (BitVec.ofInt 64 w &&& BitVec.ofInt 64 1).toNat
theorem and1_eq (w : Int) : bitsInt .and .i64 w 1 = some (.int .i64 (and1 w)) := rfl
theorem and1_bd (w : Int) : 0 ≤ and1 w ∧ and1 w ≤ 1 := by
  have h : (BitVec.ofInt 64 w &&& BitVec.ofInt 64 1).toNat ≤ 1 := by
    rw [BitVec.toNat_and]
    exact Nat.and_le_right
  unfold and1
  rw [wrap64 (by omega) (by omega)]
  omega

set_option maxHeartbeats 4000000 in
theorem near_loop {sv : V} {t : Int} {qs ts : List Place} {n : Nat} {g : Nat} {all : V} {σ : St}
    (hids : ∀ (i : Nat) (q : Place), qs[i]? = some q → q.id = i) (hn8 : n ≤ 8) (hq : qs.length = n) (ht : ts.length = n) (hn0 : n ≠ 0)
    (hlaw : ∀ d, allP qs d = evList qs d n ∧ allP ts d = allP qs d)
    (h : NearCtx sv t qs n 1 all (.sl 1184 g 0 n) (To_1184 g ts) σ) :
    wpc E (.loop f4_l3) σ fun ex σ' => ex = .exit 2 ∧ σ'.T 0 = sv ∧ σ'.T 1 = .int .u8 t ∧ σ'.T 5 = .bool true := by
  refine wpc_loop_of (fun m σ => ∃ d : Int, m = (3 - d).toNat ∧ 1 ≤ d ∧ d ≤ 3 ∧ ∃ all, NearCtx sv t qs n d all (.sl 1184 g 0 n) (To_1184 g ts) σ) ?_ 2 _ ?_
  case refine_2 => exact ⟨1, rfl, by omega, by omega, all, h⟩
  clear h
  clear σ all
  rintro m σ ⟨d, rfl, hd1, hd3, all, h⟩
  by_cases hd : d ≤ 2
  case pos =>
    refine wpc_mono (near_dist_1184 hids hn8 hq ht hn0 hd hd1 (hlaw d).1 (hlaw d).2 h) fun e σ' he => ?_
    obtain ⟨rfl, all', h'⟩ := he
    exact ⟨(3 - (d + 1)).toNat, by omega, d + 1, rfl, by omega, by omega, all', h'⟩
  obtain ⟨h0, h1, h5, h6, h10, h11, h12, h112, ⟨z, h355⟩, h176, z2, hTo⟩ := h
  simp only [go_sem, Nat.reduceAdd, Nat.reduceSub, Nat.reduceMul, Nat.reduceEqDiff, Nat.reduceLT, Nat.reduceLeDiff, Nat.reduceBEq, reduceCtorEq, Int.reduceToNat, Int.reduceAdd, Int.reduceSub, Int.reduceMul, Int.reduceNeg, Int.reduceLE, Int.reduceLT, Int.reduceEq, ↓reduceIte, h0, h1, h5, h11, hd, h0]

set_option maxHeartbeats 4000000 in
theorem gatherNearest_ev {l : List Place} {sv : V} (hs : IsSl 7 (l.map Place.v) sv) {t : Int} (ht0 : 0 ≤ t) (ht1 : t ≤ 255) : Ev E 4 [sv, .int .u8 t] ⟨.bool true, []⟩ := by
  have hsp := hs.pure
  refine Ev.of_wpc E_4 (X_4 _) rfl ?_
  rw [enter_pure (by simp [V.arePure, V.isPure, *]), f4_b]
  simp only [go_sem, Nat.reduceAdd, Nat.reduceSub, Nat.reduceMul, Nat.reduceEqDiff, Nat.reduceLT, Nat.reduceLeDiff, Nat.reduceBEq, reduceCtorEq, Int.reduceToNat, Int.reduceAdd, Int.reduceSub, Int.reduceMul, Int.reduceNeg, Int.reduceLE, Int.reduceLT, Int.reduceEq, ↓reduceIte]
  refine wpa_pure E_5 rfl rfl sanity15 ?_
  simp only [go_sem, Nat.reduceAdd, Nat.reduceSub, Nat.reduceMul, Nat.reduceEqDiff, Nat.reduceLT, Nat.reduceLeDiff, Nat.reduceBEq, reduceCtorEq, Int.reduceToNat, Int.reduceAdd, Int.reduceSub, Int.reduceMul, Int.reduceNeg, Int.reduceLE, Int.reduceLT, Int.reduceEq, ↓reduceIte]
  refine wpa_pure E_6 rfl (by simp [V.arePure, hsp]) (cut_ev hs) ?_
  by_cases hl : l = []
  · simp only [go_sem, Nat.reduceAdd, Nat.reduceSub, Nat.reduceMul, Nat.reduceEqDiff, Nat.reduceLT, Nat.reduceLeDiff, Nat.reduceBEq, reduceCtorEq, Int.reduceToNat, Int.reduceAdd, Int.reduceSub, Int.reduceMul, Int.reduceNeg, Int.reduceLE, Int.reduceLT, Int.reduceEq, ↓reduceIte, hl]
    rw [wpc_loop]
    simp only [go_sem, Nat.reduceAdd, Nat.reduceSub, Nat.reduceMul, Nat.reduceEqDiff, Nat.reduceLT, Nat.reduceLeDiff, Nat.reduceBEq, reduceCtorEq, Int.reduceToNat, Int.reduceAdd, Int.reduceSub, Int.reduceMul, Int.reduceNeg, Int.reduceLE, Int.reduceLT, Int.reduceEq, ↓reduceIte, hsp]
  · have hn8 : (cutP l).length ≤ 8 := by simp [cutP]; omega
    have hn0 : (cutP l).length ≠ 0 := by simp [cutP]; exact fun h => hl h
    simp only [go_sem, Nat.reduceAdd, Nat.reduceSub, Nat.reduceMul, Nat.reduceEqDiff, Nat.reduceLT, Nat.reduceLeDiff, Nat.reduceBEq, reduceCtorEq, Int.reduceToNat, Int.reduceAdd, Int.reduceSub, Int.reduceMul, Int.reduceNeg, Int.reduceLE, Int.reduceLT, Int.reduceEq, ↓reduceIte, hl, List.length_map]
    generalize cutP l = q0 at hn8 hn0 ⊢
    refine wpc_loop_of (fun m σ => ∃ (j : Nat) (qs : List Place), m = q0.length - j ∧ j ≤ q0.length ∧ qs.length = q0.length ∧ (∀ (i : Nat) (q : Place), i < j → qs[i]? = some q → Nrm i q) ∧
      σ.T 0 = sv ∧ σ.T 1 = .int .u8 t ∧ σ.T 5 = .bool true ∧ σ.T 6 = .ptr 112 1 0 0 ∧ σ.T 24 = .int .i64 q0.length ∧ σ.T 25 = .int .i64 j ∧
      σ.O 112 = { gen := 1, sz := 4, arr := false, fz := false, es := some [.agg [.nils, .nils, .nils, .sl 355 1 0 q0.length]] } ∧
      σ.O 355 = { gen := 1, sz := 7, arr := true, fz := false, es := some (qs.map Place.v) } ∧
      (σ.O 176).gen = 0) ?_ q0.length _ ?_
    case refine_2 => exact ⟨0, q0, by simp, by simp, rfl, by simp, by (first | assumption | rfl | omega | (simp; done) | (simp; omega) | ((simp only [go_sem, Nat.reduceAdd, Nat.reduceSub, Nat.reduceMul, Nat.reduceEqDiff, Nat.reduceLT, Nat.reduceLeDiff, Nat.reduceBEq, reduceCtorEq, Int.reduceToNat, Int.reduceAdd, Int.reduceSub, Int.reduceMul, Int.reduceNeg, Int.reduceLE, Int.reduceLT, Int.reduceEq, ↓reduceIte]); done) | ((simp only [go_sem, Nat.reduceAdd, Nat.reduceSub, Nat.reduceMul, Nat.reduceEqDiff, Nat.reduceLT, Nat.reduceLeDiff, Nat.reduceBEq, reduceCtorEq, Int.reduceToNat, Int.reduceAdd, Int.reduceSub, Int.reduceMul, Int.reduceNeg, Int.reduceLE, Int.reduceLT, Int.reduceEq, ↓reduceIte]); simp; done) | ((simp only [go_sem, Nat.reduceAdd, Nat.reduceSub, Nat.reduceMul, Nat.reduceEqDiff, Nat.reduceLT, Nat.reduceLeDiff, Nat.reduceBEq, reduceCtorEq, Int.reduceToNat, Int.reduceAdd, Int.reduceSub, Int.reduceMul, Int.reduceNeg, Int.reduceLE, Int.reduceLT, Int.reduceEq, ↓reduceIte]); omega)), by (first | assumption | rfl | omega | (simp; done) | (simp; omega) | ((simp only [go_sem, Nat.reduceAdd, Nat.reduceSub, Nat.reduceMul, Nat.reduceEqDiff, Nat.reduceLT, Nat.reduceLeDiff, Nat.reduceBEq, reduceCtorEq, Int.reduceToNat, Int.reduceAdd, Int.reduceSub, Int.reduceMul, Int.reduceNeg, Int.reduceLE, Int.reduceLT, Int.reduceEq, ↓reduceIte]); done) | ((simp only [go_sem, Nat.reduceAdd, Nat.reduceSub, Nat.reduceMul, Nat.reduceEqDiff, Nat.reduceLT, Nat.reduceLeDiff, Nat.reduceBEq, reduceCtorEq, Int.reduceToNat, Int.reduceAdd, Int.reduceSub, Int.reduceMul, Int.reduceNeg, Int.reduceLE, Int.reduceLT, Int.reduceEq, ↓reduceIte]); simp; done) | ((simp only [go_sem, Nat.reduceAdd, Nat.reduceSub, Nat.reduceMul, Nat.reduceEqDiff, Nat.reduceLT, Nat.reduceLeDiff, Nat.reduceBEq, reduceCtorEq, Int.reduceToNat, Int.reduceAdd, Int.reduceSub, Int.reduceMul, Int.reduceNeg, Int.reduceLE, Int.reduceLT, Int.reduceEq, ↓reduceIte]); omega)), by (first | assumption | rfl | omega | (simp; done) | (simp; omega) | ((simp only [go_sem, Nat.reduceAdd, Nat.reduceSub, Nat.reduceMul, Nat.reduceEqDiff, Nat.reduceLT, Nat.reduceLeDiff, Nat.reduceBEq, reduceCtorEq, Int.reduceToNat, Int.reduceAdd, Int.reduceSub, Int.reduceMul, Int.reduceNeg, Int.reduceLE, Int.reduceLT, Int.reduceEq, ↓reduceIte]); done) | ((simp only [go_sem, Nat.reduceAdd, Nat.reduceSub, Nat.reduceMul, Nat.reduceEqDiff, Nat.reduceLT, Nat.reduceLeDiff, Nat.reduceBEq, reduceCtorEq, Int.reduceToNat, Int.reduceAdd, Int.reduceSub, Int.reduceMul, Int.reduceNeg, Int.reduceLE, Int.reduceLT, Int.reduceEq, ↓reduceIte]); simp; done) | ((simp only [go_sem, Nat.reduceAdd, Nat.reduceSub, Nat.reduceMul, Nat.reduceEqDiff, Nat.reduceLT, Nat.reduceLeDiff, Nat.reduceBEq, reduceCtorEq, Int.reduceToNat, Int.reduceAdd, Int.reduceSub, Int.reduceMul, Int.reduceNeg, Int.reduceLE, Int.reduceLT, Int.reduceEq, ↓reduceIte]); omega)), by (first | assumption | rfl | omega | (simp; done) | (simp; omega) | ((simp only [go_sem, Nat.reduceAdd, Nat.reduceSub, Nat.reduceMul, Nat.reduceEqDiff, Nat.reduceLT, Nat.reduceLeDiff, Nat.reduceBEq, reduceCtorEq, Int.reduceToNat, Int.reduceAdd, Int.reduceSub, Int.reduceMul, Int.reduceNeg, Int.reduceLE, Int.reduceLT, Int.reduceEq, ↓reduceIte]); done) | ((simp only [go_sem, Nat.reduceAdd, Nat.reduceSub, Nat.reduceMul, Nat.reduceEqDiff, Nat.reduceLT, Nat.reduceLeDiff, Nat.reduceBEq, reduceCtorEq, Int.reduceToNat, Int.reduceAdd, Int.reduceSub, Int.reduceMul, Int.reduceNeg, Int.reduceLE, Int.reduceLT, Int.reduceEq, ↓reduceIte]); simp; done) | ((simp only [go_sem, Nat.reduceAdd, Nat.reduceSub, Nat.reduceMul, Nat.reduceEqDiff, Nat.reduceLT, Nat.reduceLeDiff, Nat.reduceBEq, reduceCtorEq, Int.reduceToNat, Int.reduceAdd, Int.reduceSub, Int.reduceMul, Int.reduceNeg, Int.reduceLE, Int.reduceLT, Int.reduceEq, ↓reduceIte]); omega)), by (first | assumption | rfl | omega | (simp; done) | (simp; omega) | ((simp only [go_sem, Nat.reduceAdd, Nat.reduceSub, Nat.reduceMul, Nat.reduceEqDiff, Nat.reduceLT, Nat.reduceLeDiff, Nat.reduceBEq, reduceCtorEq, Int.reduceToNat, Int.reduceAdd, Int.reduceSub, Int.reduceMul, Int.reduceNeg, Int.reduceLE, Int.reduceLT, Int.reduceEq, ↓reduceIte]); done) | ((simp only [go_sem, Nat.reduceAdd, Nat.reduceSub, Nat.reduceMul, Nat.reduceEqDiff, Nat.reduceLT, Nat.reduceLeDiff, Nat.reduceBEq, reduceCtorEq, Int.reduceToNat, Int.reduceAdd, Int.reduceSub, Int.reduceMul, Int.reduceNeg, Int.reduceLE, Int.reduceLT, Int.reduceEq, ↓reduceIte]); simp; done) | ((simp only [go_sem, Nat.reduceAdd, Nat.reduceSub, Nat.reduceMul, Nat.reduceEqDiff, Nat.reduceLT, Nat.reduceLeDiff, Nat.reduceBEq, reduceCtorEq, Int.reduceToNat, Int.reduceAdd, Int.reduceSub, Int.reduceMul, Int.reduceNeg, Int.reduceLE, Int.reduceLT, Int.reduceEq, ↓reduceIte]); omega)), by (first | assumption | rfl | omega | (simp; done) | (simp; omega) | ((simp only [go_sem, Nat.reduceAdd, Nat.reduceSub, Nat.reduceMul, Nat.reduceEqDiff, Nat.reduceLT, Nat.reduceLeDiff, Nat.reduceBEq, reduceCtorEq, Int.reduceToNat, Int.reduceAdd, Int.reduceSub, Int.reduceMul, Int.reduceNeg, Int.reduceLE, Int.reduceLT, Int.reduceEq, ↓reduceIte]); done) | ((simp only [go_sem, Nat.reduceAdd, Nat.reduceSub, Nat.reduceMul, Nat.reduceEqDiff, Nat.reduceLT, Nat.reduceLeDiff, Nat.reduceBEq, reduceCtorEq, Int.reduceToNat, Int.reduceAdd, Int.reduceSub, Int.reduceMul, Int.reduceNeg, Int.reduceLE, Int.reduceLT, Int.reduceEq, ↓reduceIte]); simp; done) | ((simp only [go_sem, Nat.reduceAdd, Nat.reduceSub, Nat.reduceMul, Nat.reduceEqDiff, Nat.reduceLT, Nat.reduceLeDiff, Nat.reduceBEq, reduceCtorEq, Int.reduceToNat, Int.reduceAdd, Int.reduceSub, Int.reduceMul, Int.reduceNeg, Int.reduceLE, Int.reduceLT, Int.reduceEq, ↓reduceIte]); omega)), by (first | assumption | rfl | omega | (simp; done) | (simp; omega) | ((simp only [go_sem, Nat.reduceAdd, Nat.reduceSub, Nat.reduceMul, Nat.reduceEqDiff, Nat.reduceLT, Nat.reduceLeDiff, Nat.reduceBEq, reduceCtorEq, Int.reduceToNat, Int.reduceAdd, Int.reduceSub, Int.reduceMul, Int.reduceNeg, Int.reduceLE, Int.reduceLT, Int.reduceEq, ↓reduceIte]); done) | ((simp only [go_sem, Nat.reduceAdd, Nat.reduceSub, Nat.reduceMul, Nat.reduceEqDiff, Nat.reduceLT, Nat.reduceLeDiff, Nat.reduceBEq, reduceCtorEq, Int.reduceToNat, Int.reduceAdd, Int.reduceSub, Int.reduceMul, Int.reduceNeg, Int.reduceLE, Int.reduceLT, Int.reduceEq, ↓reduceIte]); simp; done) | ((simp only [go_sem, Nat.reduceAdd, Nat.reduceSub, Nat.reduceMul, Nat.reduceEqDiff, Nat.reduceLT, Nat.reduceLeDiff, Nat.reduceBEq, reduceCtorEq, Int.reduceToNat, Int.reduceAdd, Int.reduceSub, Int.reduceMul, Int.reduceNeg, Int.reduceLE, Int.reduceLT, Int.reduceEq, ↓reduceIte]); omega)), by (first | assumption | rfl | omega | (simp; done) | (simp; omega) | ((simp only [go_sem, Nat.reduceAdd, Nat.reduceSub, Nat.reduceMul, Nat.reduceEqDiff, Nat.reduceLT, Nat.reduceLeDiff, Nat.reduceBEq, reduceCtorEq, Int.reduceToNat, Int.reduceAdd, Int.reduceSub, Int.reduceMul, Int.reduceNeg, Int.reduceLE, Int.reduceLT, Int.reduceEq, ↓reduceIte]); done) | ((simp only [go_sem, Nat.reduceAdd, Nat.reduceSub, Nat.reduceMul, Nat.reduceEqDiff, Nat.reduceLT, Nat.reduceLeDiff, Nat.reduceBEq, reduceCtorEq, Int.reduceToNat, Int.reduceAdd, Int.reduceSub, Int.reduceMul, Int.reduceNeg, Int.reduceLE, Int.reduceLT, Int.reduceEq, ↓reduceIte]); simp; done) | ((simp only [go_sem, Nat.reduceAdd, Nat.reduceSub, Nat.reduceMul, Nat.reduceEqDiff, Nat.reduceLT, Nat.reduceLeDiff, Nat.reduceBEq, reduceCtorEq, Int.reduceToNat, Int.reduceAdd, Int.reduceSub, Int.reduceMul, Int.reduceNeg, Int.reduceLE, Int.reduceLT, Int.reduceEq, ↓reduceIte]); omega)), by simp only [go_sem, Nat.reduceAdd, Nat.reduceSub, Nat.reduceMul, Nat.reduceEqDiff, Nat.reduceLT, Nat.reduceLeDiff, Nat.reduceBEq, reduceCtorEq, Int.reduceToNat, Int.reduceAdd, Int.reduceSub, Int.reduceMul, Int.reduceNeg, Int.reduceLE, Int.reduceLT, Int.reduceEq, ↓reduceIte]⟩
    rintro m σ ⟨j, qs, rfl, hj, hq, hqs, h0, h1, h5, h6, h24, h25, h112, h355, hg⟩
    by_cases hlt : j < q0.length
    · obtain ⟨p, hx⟩ : ∃ p, qs[j]? = some p := ⟨_, List.getElem?_eq_getElem (by omega)⟩
      have hx' : (qs.map Place.v)[j]? = some p.v := by simp [hx]
      have hset : ∀ x, ((qs.map Place.v).set j x)[j]? = some x := fun x => List.getElem?_set_self (by simp; omega)
      simp only [go_sem, Nat.reduceAdd, Nat.reduceSub, Nat.reduceMul, Nat.reduceEqDiff, Nat.reduceLT, Nat.reduceLeDiff, Nat.reduceBEq, reduceCtorEq, Int.reduceToNat, Int.reduceAdd, Int.reduceSub, Int.reduceMul, Int.reduceNeg, Int.reduceLE, Int.reduceLT, Int.reduceEq, ↓reduceIte, h0, h1, h5, h6, h24, h25, h112, h355, hlt, hx', hset, List.set_set, Place.v, and1_eq, List.length_map, List.length_set, hq, h0]
      refine wpc_drawn_of ?_
      simp only [go_sem, Nat.reduceAdd, Nat.reduceSub, Nat.reduceMul, Nat.reduceEqDiff, Nat.reduceLT, Nat.reduceLeDiff, Nat.reduceBEq, reduceCtorEq, Int.reduceToNat, Int.reduceAdd, Int.reduceSub, Int.reduceMul, Int.reduceNeg, Int.reduceLE, Int.reduceLT, Int.reduceEq, ↓reduceIte, h0, h1, h5, h6, h24, h25, h112, h355, hlt, hx', hset, List.set_set, Place.v, and1_eq, List.length_map, List.length_set, hq, h0]
      refine ⟨by rfl, ?_⟩
      have b1 := and1_bd p.dist
      have b2 : IntKind.i64.wrap (1 + and1 p.dist) = 1 + and1 p.dist := wrap64 (by omega) (by omega)
      have hv : (qs.map Place.v).set j (V.agg [V.int IntKind.i64 j, V.int IntKind.i64 (p.x.tmod 500), V.int IntKind.i64 (p.y.tmod 500), V.str p.cls, V.str p.name, V.int IntKind.i64 p.weight, V.int IntKind.i64 (IntKind.i64.wrap (1 + and1 p.dist))])
        = (qs.set j ⟨j, p.x.tmod 500, p.y.tmod 500, p.cls, p.name, p.weight, 1 + and1 p.dist⟩).map Place.v := by
        rw [List.map_set, b2]; rfl
      rw [hv, wrap64 (show -9223372036854775808 ≤ (j : Int) + 1 by omega) (show (j : Int) + 1 ≤ 9223372036854775807 by omega)]
      refine ⟨q0.length - (j + 1), by omega, j + 1, _, rfl, by omega, ?_, ?_, by simp, rfl, hg⟩
      · simp [hq]
      · intro i q hi hiq
        by_cases e : j = i
        · subst e
          rw [List.getElem?_set_self (by omega)] at hiq
          injection hiq with hiq; subst hiq
          have c1 := Int.tmod_lt_of_pos p.x (show 0 < (500 : Int) by omega)
          have c2 := Int.tmod_lt_of_pos p.y (show 0 < (500 : Int) by omega)
          have c3' := Int.tmod_lt_of_pos (-p.x) (show 0 < (500 : Int) by omega)
          have c4' := Int.tmod_lt_of_pos (-p.y) (show 0 < (500 : Int) by omega)
          rw [Int.neg_tmod] at c3' c4'
          have c3 : -500 < p.x.tmod 500 := by omega
          have c4 : -500 < p.y.tmod 500 := by omega
          exact ⟨rfl, by simp; omega, by simp; omega, ⟨c3, c1⟩, ⟨c4, c2⟩⟩
        · rw [List.getElem?_set_ne e] at hiq
          exact hqs i q (by omega) hiq
    · obtain rfl : j = q0.length := by omega
      have hn0' : ¬ (q0.length : Int) = 0 := by omega
      simp only [go_sem, Nat.reduceAdd, Nat.reduceSub, Nat.reduceMul, Nat.reduceEqDiff, Nat.reduceLT, Nat.reduceLeDiff, Nat.reduceBEq, reduceCtorEq, Int.reduceToNat, Int.reduceAdd, Int.reduceSub, Int.reduceMul, Int.reduceNeg, Int.reduceLE, Int.reduceLT, Int.reduceEq, ↓reduceIte, h0, h1, h5, h6, h24, h25, h112, h355, hlt, List.length_map, List.length_set, hq, hg, hn0, hn0']
      have hids : ∀ (i : Nat) (q : Place), qs[i]? = some q → Nrm i q := fun i q h => hqs i q (by rw [← hq]; exact (List.getElem?_eq_some_iff.1 h).1) h
      have hid1 : ∀ (i : Nat) (q : Place), qs[i]? = some q → q.id = i := fun i q h => (hids i q h).1
      obtain ⟨k, hk, hkn⟩ : ∃ k : Nat, (IntKind.i64.wrap t).tmod q0.length = k ∧ k < q0.length := by
        rw [wrap64 (by omega) (by omega)]
        have a1 := Int.tmod_nonneg (q0.length : Int) ht0
        have a2 := Int.tmod_lt_of_pos t (show 0 < (q0.length : Int) by omega)
        exact ⟨(t.tmod q0.length).toNat, by omega, by omega⟩
      have hlaw := fun d => near_law hids (k := k) (by omega) d
      have hkle : k ≤ q0.length := by omega
      have hwk : AM.window (qs.map Place.v) k (q0.length - k) = (qs.drop k).map Place.v := by
        rw [AM.window, ← List.map_drop]; exact List.take_of_length_le (by simp [hq])
      have hw0 : AM.window (qs.map Place.v) 0 k = (qs.take k).map Place.v := by
        simp [AM.window, List.map_take]
      have hbl1 := Place.blanks (qs.drop k)
      have hbl2 := Place.blanks (qs.take k)
      have hL1 : ((qs.drop k).map Place.v).length = q0.length - k := by simp [hq]
      have hL2 : ((qs.take k).map Place.v).length = k := by simp [hq]; omega
      have htl : (qs.drop k ++ qs.take k).length = q0.length := by simp [hq]; omega
      have htv : (qs.drop k).map Place.v ++ (qs.take k).map Place.v = (qs.drop k ++ qs.take k).map Place.v := by simp
      generalize hts : qs.drop k ++ qs.take k = ts at hlaw htl htv
      clear hqs h24 h25 hlt hj
      refine wpc_drawn_of ?_
      have hm1 : ¬ q0.length - k ≤ 0 := by omega
      have hm2 : q0.length - k ≤ 1927910799188 := by omega
      have hm3 : k + (q0.length - k) = q0.length := by omega
      have hm4 : q0.length - k + k = q0.length := by omega
      have hm5 : q0.length ≤ 1927910799188 := by omega
      have hle2 : q0.length ≤ q0.length := Nat.le_refl _
      have hk00 : 0 ≤ k := Nat.zero_le _
      by_cases hk0 : k = 0
      · subst hk0
        have hm6 : (List.take 0 qs).map Place.v = [] := by simp
        have hwinq : AM.window (qs.map Place.v) 0 q0.length = qs.map Place.v := window_all (by simp [hq])
        have hw00 : AM.window (qs.map Place.v) 0 0 = [] := by simp [AM.window]
        have hblq := Place.blanks qs
        have hbl0 : ([] : List V).all (isBlank · 7) = true := rfl
        have hn00 : ¬ q0.length ≤ 0 := by omega
        have hov : overwrite (qs.map Place.v) q0.length [] = qs.map Place.v := by simp [overwrite, ← hq]
        have hts' : qs = ts := by rw [← hts]; simp
        subst hts'
        simp only [go_sem, Nat.reduceAdd, Nat.reduceSub, Nat.reduceMul, Nat.reduceEqDiff, Nat.reduceLT, Nat.reduceLeDiff, Nat.reduceBEq, reduceCtorEq, Int.reduceToNat, Int.reduceAdd, Int.reduceSub, Int.reduceMul, Int.reduceNeg, Int.reduceLE, Int.reduceLT, Int.reduceEq, ↓reduceIte, h0, h1, h5, h6, h112, h355, hk, hkle, hwk, hw0, hg, hn0, hn00, hov, List.length_map, hwinq, hw00, hm2, hm5, hq, hle2, Place.pures, app_sl hblq, app_sl hbl0]
        refine ⟨by rfl, ?_⟩
        refine wpc_mono (near_loop (sv := sv) (t := t) (g := (σ.O 1184).gen + 1 + 1) (all := σ.T 12) hid1 hn8 hq hq hn0 (fun d => ⟨by rw [← hq]; exact (hlaw d).1, rfl⟩) ⟨by simp only [go_sem, Nat.reduceAdd, Nat.reduceSub, Nat.reduceMul, Nat.reduceEqDiff, Nat.reduceLT, Nat.reduceLeDiff, Nat.reduceBEq, reduceCtorEq, Int.reduceToNat, Int.reduceAdd, Int.reduceSub, Int.reduceMul, Int.reduceNeg, Int.reduceLE, Int.reduceLT, Int.reduceEq, ↓reduceIte, h0], by simp only [go_sem, Nat.reduceAdd, Nat.reduceSub, Nat.reduceMul, Nat.reduceEqDiff, Nat.reduceLT, Nat.reduceLeDiff, Nat.reduceBEq, reduceCtorEq, Int.reduceToNat, Int.reduceAdd, Int.reduceSub, Int.reduceMul, Int.reduceNeg, Int.reduceLE, Int.reduceLT, Int.reduceEq, ↓reduceIte, h1], by simp only [go_sem, Nat.reduceAdd, Nat.reduceSub, Nat.reduceMul, Nat.reduceEqDiff, Nat.reduceLT, Nat.reduceLeDiff, Nat.reduceBEq, reduceCtorEq, Int.reduceToNat, Int.reduceAdd, Int.reduceSub, Int.reduceMul, Int.reduceNeg, Int.reduceLE, Int.reduceLT, Int.reduceEq, ↓reduceIte, h5], by simp only [go_sem, Nat.reduceAdd, Nat.reduceSub, Nat.reduceMul, Nat.reduceEqDiff, Nat.reduceLT, Nat.reduceLeDiff, Nat.reduceBEq, reduceCtorEq, Int.reduceToNat, Int.reduceAdd, Int.reduceSub, Int.reduceMul, Int.reduceNeg, Int.reduceLE, Int.reduceLT, Int.reduceEq, ↓reduceIte, h6], by simp only [go_sem, Nat.reduceAdd, Nat.reduceSub, Nat.reduceMul, Nat.reduceEqDiff, Nat.reduceLT, Nat.reduceLeDiff, Nat.reduceBEq, reduceCtorEq, Int.reduceToNat, Int.reduceAdd, Int.reduceSub, Int.reduceMul, Int.reduceNeg, Int.reduceLE, Int.reduceLT, Int.reduceEq, ↓reduceIte], by simp only [go_sem, Nat.reduceAdd, Nat.reduceSub, Nat.reduceMul, Nat.reduceEqDiff, Nat.reduceLT, Nat.reduceLeDiff, Nat.reduceBEq, reduceCtorEq, Int.reduceToNat, Int.reduceAdd, Int.reduceSub, Int.reduceMul, Int.reduceNeg, Int.reduceLE, Int.reduceLT, Int.reduceEq, ↓reduceIte], by simp only [go_sem, Nat.reduceAdd, Nat.reduceSub, Nat.reduceMul, Nat.reduceEqDiff, Nat.reduceLT, Nat.reduceLeDiff, Nat.reduceBEq, reduceCtorEq, Int.reduceToNat, Int.reduceAdd, Int.reduceSub, Int.reduceMul, Int.reduceNeg, Int.reduceLE, Int.reduceLT, Int.reduceEq, ↓reduceIte], by simp only [go_sem, Nat.reduceAdd, Nat.reduceSub, Nat.reduceMul, Nat.reduceEqDiff, Nat.reduceLT, Nat.reduceLeDiff, Nat.reduceBEq, reduceCtorEq, Int.reduceToNat, Int.reduceAdd, Int.reduceSub, Int.reduceMul, Int.reduceNeg, Int.reduceLE, Int.reduceLT, Int.reduceEq, ↓reduceIte, h112], ⟨false, by simp only [go_sem, Nat.reduceAdd, Nat.reduceSub, Nat.reduceMul, Nat.reduceEqDiff, Nat.reduceLT, Nat.reduceLeDiff, Nat.reduceBEq, reduceCtorEq, Int.reduceToNat, Int.reduceAdd, Int.reduceSub, Int.reduceMul, Int.reduceNeg, Int.reduceLE, Int.reduceLT, Int.reduceEq, ↓reduceIte, h355]⟩, by simp only [go_sem, Nat.reduceAdd, Nat.reduceSub, Nat.reduceMul, Nat.reduceEqDiff, Nat.reduceLT, Nat.reduceLeDiff, Nat.reduceBEq, reduceCtorEq, Int.reduceToNat, Int.reduceAdd, Int.reduceSub, Int.reduceMul, Int.reduceNeg, Int.reduceLE, Int.reduceLT, Int.reduceEq, ↓reduceIte], false, by simp only [go_sem, Nat.reduceAdd, Nat.reduceSub, Nat.reduceMul, Nat.reduceEqDiff, Nat.reduceLT, Nat.reduceLeDiff, Nat.reduceBEq, reduceCtorEq, Int.reduceToNat, Int.reduceAdd, Int.reduceSub, Int.reduceMul, Int.reduceNeg, Int.reduceLE, Int.reduceLT, Int.reduceEq, ↓reduceIte]⟩) ?_
        rintro e σ' ⟨rfl, a0, a1, a5⟩
        simp only [go_sem, Nat.reduceAdd, Nat.reduceSub, Nat.reduceMul, Nat.reduceEqDiff, Nat.reduceLT, Nat.reduceLeDiff, Nat.reduceBEq, reduceCtorEq, Int.reduceToNat, Int.reduceAdd, Int.reduceSub, Int.reduceMul, Int.reduceNeg, Int.reduceLE, Int.reduceLT, Int.reduceEq, ↓reduceIte, a0, a1, a5, hsp]
      have hm8 : ¬ q0.length ≤ q0.length - k := by omega
      simp only [go_sem, Nat.reduceAdd, Nat.reduceSub, Nat.reduceMul, Nat.reduceEqDiff, Nat.reduceLT, Nat.reduceLeDiff, Nat.reduceBEq, reduceCtorEq, Int.reduceToNat, Int.reduceAdd, Int.reduceSub, Int.reduceMul, Int.reduceNeg, Int.reduceLE, Int.reduceLT, Int.reduceEq, ↓reduceIte, h0, h1, h5, h6, h112, h355, hk, hkle, hwk, hw0, hg, hL1, hL2, hm1, hm2, hm3, hm4, hm5, hm8, hq, hle2, hk00, List.length_map, Place.pures, app_sl hbl1, app_sl hbl2]
      refine ⟨by rfl, ?_⟩
      refine wpc_mono (near_loop (sv := sv) (t := t) (g := (σ.O 1184).gen + 1 + 1 + 1) (all := σ.T 12) (ts := ts) hid1 hn8 hq htl hn0 (fun d => ⟨by rw [← hq]; exact (hlaw d).1, (hlaw d).2⟩) ⟨by simp only [go_sem, Nat.reduceAdd, Nat.reduceSub, Nat.reduceMul, Nat.reduceEqDiff, Nat.reduceLT, Nat.reduceLeDiff, Nat.reduceBEq, reduceCtorEq, Int.reduceToNat, Int.reduceAdd, Int.reduceSub, Int.reduceMul, Int.reduceNeg, Int.reduceLE, Int.reduceLT, Int.reduceEq, ↓reduceIte, h0], by simp only [go_sem, Nat.reduceAdd, Nat.reduceSub, Nat.reduceMul, Nat.reduceEqDiff, Nat.reduceLT, Nat.reduceLeDiff, Nat.reduceBEq, reduceCtorEq, Int.reduceToNat, Int.reduceAdd, Int.reduceSub, Int.reduceMul, Int.reduceNeg, Int.reduceLE, Int.reduceLT, Int.reduceEq, ↓reduceIte, h1], by simp only [go_sem, Nat.reduceAdd, Nat.reduceSub, Nat.reduceMul, Nat.reduceEqDiff, Nat.reduceLT, Nat.reduceLeDiff, Nat.reduceBEq, reduceCtorEq, Int.reduceToNat, Int.reduceAdd, Int.reduceSub, Int.reduceMul, Int.reduceNeg, Int.reduceLE, Int.reduceLT, Int.reduceEq, ↓reduceIte, h5], by simp only [go_sem, Nat.reduceAdd, Nat.reduceSub, Nat.reduceMul, Nat.reduceEqDiff, Nat.reduceLT, Nat.reduceLeDiff, Nat.reduceBEq, reduceCtorEq, Int.reduceToNat, Int.reduceAdd, Int.reduceSub, Int.reduceMul, Int.reduceNeg, Int.reduceLE, Int.reduceLT, Int.reduceEq, ↓reduceIte, h6], by simp only [go_sem, Nat.reduceAdd, Nat.reduceSub, Nat.reduceMul, Nat.reduceEqDiff, Nat.reduceLT, Nat.reduceLeDiff, Nat.reduceBEq, reduceCtorEq, Int.reduceToNat, Int.reduceAdd, Int.reduceSub, Int.reduceMul, Int.reduceNeg, Int.reduceLE, Int.reduceLT, Int.reduceEq, ↓reduceIte], by simp only [go_sem, Nat.reduceAdd, Nat.reduceSub, Nat.reduceMul, Nat.reduceEqDiff, Nat.reduceLT, Nat.reduceLeDiff, Nat.reduceBEq, reduceCtorEq, Int.reduceToNat, Int.reduceAdd, Int.reduceSub, Int.reduceMul, Int.reduceNeg, Int.reduceLE, Int.reduceLT, Int.reduceEq, ↓reduceIte], by simp only [go_sem, Nat.reduceAdd, Nat.reduceSub, Nat.reduceMul, Nat.reduceEqDiff, Nat.reduceLT, Nat.reduceLeDiff, Nat.reduceBEq, reduceCtorEq, Int.reduceToNat, Int.reduceAdd, Int.reduceSub, Int.reduceMul, Int.reduceNeg, Int.reduceLE, Int.reduceLT, Int.reduceEq, ↓reduceIte], by simp only [go_sem, Nat.reduceAdd, Nat.reduceSub, Nat.reduceMul, Nat.reduceEqDiff, Nat.reduceLT, Nat.reduceLeDiff, Nat.reduceBEq, reduceCtorEq, Int.reduceToNat, Int.reduceAdd, Int.reduceSub, Int.reduceMul, Int.reduceNeg, Int.reduceLE, Int.reduceLT, Int.reduceEq, ↓reduceIte, h112], ⟨false, by simp only [go_sem, Nat.reduceAdd, Nat.reduceSub, Nat.reduceMul, Nat.reduceEqDiff, Nat.reduceLT, Nat.reduceLeDiff, Nat.reduceBEq, reduceCtorEq, Int.reduceToNat, Int.reduceAdd, Int.reduceSub, Int.reduceMul, Int.reduceNeg, Int.reduceLE, Int.reduceLT, Int.reduceEq, ↓reduceIte, h355]⟩, by simp only [go_sem, Nat.reduceAdd, Nat.reduceSub, Nat.reduceMul, Nat.reduceEqDiff, Nat.reduceLT, Nat.reduceLeDiff, Nat.reduceBEq, reduceCtorEq, Int.reduceToNat, Int.reduceAdd, Int.reduceSub, Int.reduceMul, Int.reduceNeg, Int.reduceLE, Int.reduceLT, Int.reduceEq, ↓reduceIte], false, by simp only [go_sem, Nat.reduceAdd, Nat.reduceSub, Nat.reduceMul, Nat.reduceEqDiff, Nat.reduceLT, Nat.reduceLeDiff, Nat.reduceBEq, reduceCtorEq, Int.reduceToNat, Int.reduceAdd, Int.reduceSub, Int.reduceMul, Int.reduceNeg, Int.reduceLE, Int.reduceLT, Int.reduceEq, ↓reduceIte, htv]⟩) ?_
      rintro e σ' ⟨rfl, a0, a1, a5⟩
      simp only [go_sem, Nat.reduceAdd, Nat.reduceSub, Nat.reduceMul, Nat.reduceEqDiff, Nat.reduceLT, Nat.reduceLeDiff, Nat.reduceBEq, reduceCtorEq, Int.reduceToNat, Int.reduceAdd, Int.reduceSub, Int.reduceMul, Int.reduceNeg, Int.reduceLE, Int.reduceLT, Int.reduceEq, ↓reduceIte, a0, a1, a5, hsp]
end Go.AM
