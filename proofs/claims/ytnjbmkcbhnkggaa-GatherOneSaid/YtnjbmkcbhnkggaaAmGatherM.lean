/-
  hachurelaw15: GatherOne, a round of the inner loop. Own work.
-/
import Derived.Test.YtnjbmkcbhnkggaaAmGatherC
import Derived.Test.YtnjbmkcbhnkggaaAmGatherL
set_option linter.unusedSimpArgs false
namespace Go.AM

def and127 (w : Int) : Int := IntKind.i64.wrap (BitVec.ofInt 64 w &&& BitVec.ofInt 64 127).toNat
theorem and127_eq (w : Int) : bitsInt .and .i64 w 127 = some (.int .i64 (and127 w)) := rfl
theorem and127_bd (w : Int) : 0 ≤ and127 w ∧ and127 w ≤ 127 := by
  have h : (BitVec.ofInt 64 w &&& BitVec.ofInt 64 127).toNat ≤ 127 := by
    rw [BitVec.toNat_and]
    exact Nat.and_le_right
  unfold and127
  rw [wrap64 (by omega) (by omega)]
  omega

/-- what holds ahead of each round of the inner loop -/
def OneIn (sv : V) (qs : List Place) (n j : Nat) (p : Place) (k : Nat) (σ : St) : Prop :=
  σ.T 0 = sv ∧ σ.T 3 = .bool true ∧ σ.T 4 = .ptr 80 1 0 0 ∧ σ.T 53 = .sl 275 1 0 n ∧ σ.T 54 = .int .i64 n ∧ σ.T 55 = .int .i64 j ∧ σ.T 6 = .int .i64 j ∧
        σ.T 61 = .sl 275 1 0 n ∧ σ.T 62 = .int .i64 n ∧ σ.T 63 = .int .i64 k ∧
        σ.O 80 = { gen := 1, sz := 4, arr := false, fz := false, es := some [.agg [.nils, .nils, .nils, .sl 275 1 0 n]] } ∧
        (∃ z, σ.O 275 = { gen := 1, sz := 7, arr := true, fz := z, es := some (qs.map Place.v) }) ∧
        ∃ g, σ.T 7 = .ptr 128 g 0 0 ∧ σ.O 128 = { gen := g, sz := 7, arr := false, fz := false, es := some [p.v] }

set_option maxHeartbeats 4000000 in
set_option maxRecDepth 100000 in
theorem one_step {sv : V} {qs : List Place} {n j k : Nat} {p : Place} {σ : St} (hids : ∀ (i : Nat) (q : Place), qs[i]? = some q → q.id = i ∧ 1 ≤ q.weight ∧ q.weight ≤ 255) (hn8 : n ≤ 8) (hq : qs.length = n)
    (hlt : j < n) (hp : qs[j]? = some p) (hltk : k < n) (h : OneIn sv qs n j p k σ) : wpc E f3_l1 σ fun e σ' => e = .normal ∧ OneIn sv qs n j p (k + 1) σ' := by
  obtain ⟨h0, h3, h4, h53, h54, h55, h6, h61, h62, h63, h80, ⟨z, h275⟩, g, h7, h128⟩ := h
  have hid1 : ∀ (i : Nat) (q : Place), qs[i]? = some q → q.id = i := fun i q h => (hids i q h).1
  obtain ⟨q, hq'⟩ : ∃ q, qs[k]? = some q := ⟨_, List.getElem?_eq_getElem (by omega)⟩
  have hqv : (qs.map Place.v)[k]? = some q.v := by simp [hq']
  have hw := wrap64 (show -9223372036854775808 ≤ (k : Int) + 1 by omega) (show (k : Int) + 1 ≤ 9223372036854775807 by omega)
  have hwinq : AM.window (qs.map Place.v) 0 n = qs.map Place.v := window_all (by simp [hq])
  have hlit : IsSl 7 (qs.map Place.v) (.lit 7 (qs.map Place.v)) := .inl rfl
  have hcast : ((k + 1 : Nat) : Int) = (k : Int) + 1 := rfl
  simp only [go_sem, Nat.reduceAdd, Nat.reduceSub, Nat.reduceMul, Nat.reduceEqDiff, Nat.reduceLT, Nat.reduceLeDiff, Nat.reduceBEq, reduceCtorEq, Int.reduceToNat, Int.reduceAdd, Int.reduceSub, Int.reduceMul, Int.reduceNeg, Int.reduceLE, Int.reduceLT, Int.reduceEq, ↓reduceIte, h0, h3, h4, h53, h54, h55, h6, h7, h61, h62, h63, h80, h275, h128, hltk, hqv, Place.v, List.length_map, hw, h0]
  simp only [go_sem, Nat.reduceAdd, Nat.reduceSub, Nat.reduceMul, Nat.reduceEqDiff, Nat.reduceLT, Nat.reduceLeDiff, Nat.reduceBEq, reduceCtorEq, Int.reduceToNat, Int.reduceAdd, Int.reduceSub, Int.reduceMul, Int.reduceNeg, Int.reduceLE, Int.reduceLT, Int.reduceEq, ↓reduceIte, doCall, wpa_call, wpf_call, prepare.eq_1, prepare.eq_2, prepare.eq_3, prepare.eq_4, prepare.eq_5, prepare.eq_6, prepare.eq_7, snap, snapV_pure, snapV.eq_2, snapV.eq_3, snapV.eq_4, snapV.eq_5, snapV.eq_6, snapV.eq_7, snapL.eq_1, snapL.eq_2, snapAll, E_7, f7, h4, h80, h275, hwinq, hq, List.length_map, Place.pures]
  by_cases hc : canP qs j k = 0
  case neg =>
    refine ⟨_, apply_err hlit (by omega) hc, ?_⟩
    simp only [go_sem, Nat.reduceAdd, Nat.reduceSub, Nat.reduceMul, Nat.reduceEqDiff, Nat.reduceLT, Nat.reduceLeDiff, Nat.reduceBEq, reduceCtorEq, Int.reduceToNat, Int.reduceAdd, Int.reduceSub, Int.reduceMul, Int.reduceNeg, Int.reduceLE, Int.reduceLT, Int.reduceEq, ↓reduceIte, h0, h3, h4, h53, h54, h55, h6, h7, h61, h62, h63, h80, h275, h128, hltk, hqv, Place.v, List.length_map, hw, hc, OneIn, hcast]
    exact ⟨⟨_, rfl⟩, g, rfl, rfl⟩
  have hjk := findP_ids hid1 (i := j) (by omega)
  have hkk := findP_ids hid1 (i := k) (by omega)
  refine ⟨_, apply_ok hlit (by omega) hc hjk hkk hp hq', ?_⟩
  obtain ⟨l1, l2, l3, l4⟩ := one_law hid1 hp hq' hc
  obtain ⟨i1, i2, i3⟩ := hids _ _ hp
  obtain ⟨k1, k2, k3⟩ := hids _ _ hq'
  have l1' : ¬ (j : Int) = k := by omega
  have hlen2 := apply_len (ps := qs) (j := j) (k := k) (a := p) (b := q) (by omega)
  have hget := apply_get (ps := qs) (j := j) (k := k) (a := p) (b := q) (by omega) l1
  generalize applyP qs j k p q = rs at hlen2 hget ⊢
  simp only [go_sem, Nat.reduceAdd, Nat.reduceSub, Nat.reduceMul, Nat.reduceEqDiff, Nat.reduceLT, Nat.reduceLeDiff, Nat.reduceBEq, reduceCtorEq, Int.reduceToNat, Int.reduceAdd, Int.reduceSub, Int.reduceMul, Int.reduceNeg, Int.reduceLE, Int.reduceLT, Int.reduceEq, ↓reduceIte, h0, h3, h4, h53, h54, h55, h6, h7, h61, h62, h63, h80, h275, h128, hltk, hqv, Place.v, List.length_map, hw, l1']
  simp only [go_sem, Nat.reduceAdd, Nat.reduceSub, Nat.reduceMul, Nat.reduceEqDiff, Nat.reduceLT, Nat.reduceLeDiff, Nat.reduceBEq, reduceCtorEq, Int.reduceToNat, Int.reduceAdd, Int.reduceSub, Int.reduceMul, Int.reduceNeg, Int.reduceLE, Int.reduceLT, Int.reduceEq, ↓reduceIte, doCall, wpa_call, wpf_call, prepare.eq_1, prepare.eq_2, prepare.eq_3, prepare.eq_4, prepare.eq_5, prepare.eq_6, prepare.eq_7, snap, snapV_pure, snapV.eq_2, snapV.eq_3, snapV.eq_4, snapV.eq_5, snapV.eq_6, snapV.eq_7, snapL.eq_1, snapL.eq_2, snapAll, E_8, f8, h4, h80, hwinq, hq, List.length_map, Place.pures]
  refine ⟨_, can_ev rfl rfl rfl hlit (by omega) k j, ?_⟩
  have hwn : IntKind.i64.wrap ((n : Int) - 1) = ((n - 1 : Nat) : Int) := by rw [wrap64 (by omega) (by omega)]; omega
  have hwk : j < k → IntKind.i64.wrap ((k : Int) - 1) = ((k - 1 : Nat) : Int) := fun h => by rw [wrap64 (by omega) (by omega)]; omega
  have hYv : (joinP p q).v = .agg [.int .i64 q.id, .int .i64 q.x, .int .i64 q.y, .str q.cls, .str (joinP p q).name, .int .i64 (joinP p q).weight, .int .i64 q.dist] := rfl
  have hYw : (joinP p q).weight = if IntKind.i64.wrap (p.weight + q.weight) < 255 then IntKind.i64.wrap (p.weight + q.weight) else 255 := by
    simp only [joinP]
    rw [Int.add_comm q.weight p.weight]
    split <;> split <;> omega
  have hYn : (joinP p q).name = if q.name = [] then p.name else q.name := rfl
  generalize joinP p q = Y at hget hYv hYw hYn
  rw [hq] at hlen2
  have hgetv : ∀ t : Nat, rs[t]? = some Y → (rs.map Place.v)[t]? = some (.agg [.int .i64 q.id, .int .i64 q.x, .int .i64 q.y, .str q.cls, .str Y.name, .int .i64 Y.weight, .int .i64 q.dist]) := fun t h => by simp [h, hYv]
  by_cases hjlk : j < k
  · rw [if_pos hjlk] at hget
    have hg2 := hgetv _ hget
    by_cases hqn : q.name = []
    · by_cases hpn : p.name = []
      · rw [if_pos hqn, hpn] at hYn
        simp only [go_sem, Nat.reduceAdd, Nat.reduceSub, Nat.reduceMul, Nat.reduceEqDiff, Nat.reduceLT, Nat.reduceLeDiff, Nat.reduceBEq, reduceCtorEq, Int.reduceToNat, Int.reduceAdd, Int.reduceSub, Int.reduceMul, Int.reduceNeg, Int.reduceLE, Int.reduceLT, Int.reduceEq, ↓reduceIte, h0, h3, h4, h53, h54, h55, h6, h7, h61, h62, h63, h80, h275, h128, hltk, hqv, Place.v, List.length_map, hw, l1', l4, hlen2, hwn, l2, l3, hjlk, hwk hjlk, hg2, hYn, hYw, k1, hqn, hpn, OneIn, hcast]
        exact ⟨⟨_, rfl⟩, g, rfl, rfl⟩
      · rw [if_pos hqn] at hYn
        simp only [go_sem, Nat.reduceAdd, Nat.reduceSub, Nat.reduceMul, Nat.reduceEqDiff, Nat.reduceLT, Nat.reduceLeDiff, Nat.reduceBEq, reduceCtorEq, Int.reduceToNat, Int.reduceAdd, Int.reduceSub, Int.reduceMul, Int.reduceNeg, Int.reduceLE, Int.reduceLT, Int.reduceEq, ↓reduceIte, h0, h3, h4, h53, h54, h55, h6, h7, h61, h62, h63, h80, h275, h128, hltk, hqv, Place.v, List.length_map, hw, l1', l4, hlen2, hwn, l2, l3, hjlk, hwk hjlk, hg2, hYn, hYw, k1, hqn, hpn, OneIn, hcast]
        exact ⟨⟨_, rfl⟩, g, rfl, rfl⟩
    · rw [if_neg hqn] at hYn
      simp only [go_sem, Nat.reduceAdd, Nat.reduceSub, Nat.reduceMul, Nat.reduceEqDiff, Nat.reduceLT, Nat.reduceLeDiff, Nat.reduceBEq, reduceCtorEq, Int.reduceToNat, Int.reduceAdd, Int.reduceSub, Int.reduceMul, Int.reduceNeg, Int.reduceLE, Int.reduceLT, Int.reduceEq, ↓reduceIte, h0, h3, h4, h53, h54, h55, h6, h7, h61, h62, h63, h80, h275, h128, hltk, hqv, Place.v, List.length_map, hw, l1', l4, hlen2, hwn, l2, l3, hjlk, hwk hjlk, hg2, hYn, hYw, k1, hqn, OneIn, hcast]
      exact ⟨⟨_, rfl⟩, g, rfl, rfl⟩
  · rw [if_neg hjlk] at hget
    have hg2 := hgetv _ hget
    by_cases hqn : q.name = []
    · by_cases hpn : p.name = []
      · rw [if_pos hqn, hpn] at hYn
        simp only [go_sem, Nat.reduceAdd, Nat.reduceSub, Nat.reduceMul, Nat.reduceEqDiff, Nat.reduceLT, Nat.reduceLeDiff, Nat.reduceBEq, reduceCtorEq, Int.reduceToNat, Int.reduceAdd, Int.reduceSub, Int.reduceMul, Int.reduceNeg, Int.reduceLE, Int.reduceLT, Int.reduceEq, ↓reduceIte, h0, h3, h4, h53, h54, h55, h6, h7, h61, h62, h63, h80, h275, h128, hltk, hqv, Place.v, List.length_map, hw, l1', l4, hlen2, hwn, l2, l3, hjlk, hg2, hYn, hYw, k1, hqn, hpn, OneIn, hcast]
        exact ⟨⟨_, rfl⟩, g, rfl, rfl⟩
      · rw [if_pos hqn] at hYn
        simp only [go_sem, Nat.reduceAdd, Nat.reduceSub, Nat.reduceMul, Nat.reduceEqDiff, Nat.reduceLT, Nat.reduceLeDiff, Nat.reduceBEq, reduceCtorEq, Int.reduceToNat, Int.reduceAdd, Int.reduceSub, Int.reduceMul, Int.reduceNeg, Int.reduceLE, Int.reduceLT, Int.reduceEq, ↓reduceIte, h0, h3, h4, h53, h54, h55, h6, h7, h61, h62, h63, h80, h275, h128, hltk, hqv, Place.v, List.length_map, hw, l1', l4, hlen2, hwn, l2, l3, hjlk, hg2, hYn, hYw, k1, hqn, hpn, OneIn, hcast]
        exact ⟨⟨_, rfl⟩, g, rfl, rfl⟩
    · rw [if_neg hqn] at hYn
      simp only [go_sem, Nat.reduceAdd, Nat.reduceSub, Nat.reduceMul, Nat.reduceEqDiff, Nat.reduceLT, Nat.reduceLeDiff, Nat.reduceBEq, reduceCtorEq, Int.reduceToNat, Int.reduceAdd, Int.reduceSub, Int.reduceMul, Int.reduceNeg, Int.reduceLE, Int.reduceLT, Int.reduceEq, ↓reduceIte, h0, h3, h4, h53, h54, h55, h6, h7, h61, h62, h63, h80, h275, h128, hltk, hqv, Place.v, List.length_map, hw, l1', l4, hlen2, hwn, l2, l3, hjlk, hg2, hYn, hYw, k1, hqn, OneIn, hcast]
      exact ⟨⟨_, rfl⟩, g, rfl, rfl⟩

end Go.AM
