/-
  gather: Apply with what it calls. Own work.
-/
import Derived.Test.YtnjbmkcbhnkggaaAmGatherA
set_option linter.unusedSimpArgs false
namespace Go.AM

def orStr (l : List Str) : Str := (l.find? (· ≠ [])).getD []

theorem orStr_ev (a b : Str) : Ev E 17 [.lit 1 [.str a, .str b]] ⟨.str (if a = [] then b else a), []⟩ := by
  refine Ev.of_wpc E_17 (X_17 _) rfl ?_
  rw [enter_pure (by rfl), f17_b]
  simp only [go_sem, Nat.reduceAdd, Nat.reduceSub, Nat.reduceMul, Nat.reduceEqDiff, Nat.reduceLT, Nat.reduceLeDiff, Nat.reduceBEq, reduceCtorEq, Int.reduceToNat, Int.reduceAdd, Int.reduceSub, Int.reduceMul, Int.reduceNeg, Int.reduceLE, Int.reduceLT, Int.reduceEq, ↓reduceIte]
  rw [wpc_loop]
  by_cases ha : a = []
  · simp only [go_sem, Nat.reduceAdd, Nat.reduceSub, Nat.reduceMul, Nat.reduceEqDiff, Nat.reduceLT, Nat.reduceLeDiff, Nat.reduceBEq, reduceCtorEq, Int.reduceToNat, Int.reduceAdd, Int.reduceSub, Int.reduceMul, Int.reduceNeg, Int.reduceLE, Int.reduceLT, Int.reduceEq, ↓reduceIte, ha]
    rw [wpc_loop]
    simp only [go_sem, Nat.reduceAdd, Nat.reduceSub, Nat.reduceMul, Nat.reduceEqDiff, Nat.reduceLT, Nat.reduceLeDiff, Nat.reduceBEq, reduceCtorEq, Int.reduceToNat, Int.reduceAdd, Int.reduceSub, Int.reduceMul, Int.reduceNeg, Int.reduceLE, Int.reduceLT, Int.reduceEq, ↓reduceIte]
    by_cases hb : b = []
    · simp only [go_sem, Nat.reduceAdd, Nat.reduceSub, Nat.reduceMul, Nat.reduceEqDiff, Nat.reduceLT, Nat.reduceLeDiff, Nat.reduceBEq, reduceCtorEq, Int.reduceToNat, Int.reduceAdd, Int.reduceSub, Int.reduceMul, Int.reduceNeg, Int.reduceLE, Int.reduceLT, Int.reduceEq, ↓reduceIte, hb]
      rw [wpc_loop]
      simp only [go_sem, Nat.reduceAdd, Nat.reduceSub, Nat.reduceMul, Nat.reduceEqDiff, Nat.reduceLT, Nat.reduceLeDiff, Nat.reduceBEq, reduceCtorEq, Int.reduceToNat, Int.reduceAdd, Int.reduceSub, Int.reduceMul, Int.reduceNeg, Int.reduceLE, Int.reduceLT, Int.reduceEq, ↓reduceIte]
      simp [ha, hb]
    · simp only [go_sem, Nat.reduceAdd, Nat.reduceSub, Nat.reduceMul, Nat.reduceEqDiff, Nat.reduceLT, Nat.reduceLeDiff, Nat.reduceBEq, reduceCtorEq, Int.reduceToNat, Int.reduceAdd, Int.reduceSub, Int.reduceMul, Int.reduceNeg, Int.reduceLE, Int.reduceLT, Int.reduceEq, ↓reduceIte, hb]
      simp [ha]
  · simp only [go_sem, Nat.reduceAdd, Nat.reduceSub, Nat.reduceMul, Nat.reduceEqDiff, Nat.reduceLT, Nat.reduceLeDiff, Nat.reduceBEq, reduceCtorEq, Int.reduceToNat, Int.reduceAdd, Int.reduceSub, Int.reduceMul, Int.reduceNeg, Int.reduceLE, Int.reduceLT, Int.reduceEq, ↓reduceIte, ha]

theorem erase_overwrite {xs : List V} {z : V} {i : Nat} (hi : i < xs.length) : overwrite (overwrite xs i (xs.drop (i + 1))) (xs.length - 1) [z] = xs.eraseIdx i ++ [z] := by
  have h1 : overwrite xs i (xs.drop (i + 1)) = xs.eraseIdx i ++ xs.drop (xs.length - 1) := by
    rw [overwrite, List.eraseIdx_eq_take_drop_succ, List.length_drop]
    congr 2; omega
  have h2 : (xs.eraseIdx i).length = xs.length - 1 := by rw [List.length_eraseIdx_of_lt hi]
  rw [h1, overwrite, List.take_left' h2]
  simp only [List.append_assoc]
  congr 1
  simp only [List.length_cons, List.length_nil, List.singleton_append]
  congr 1
  apply List.drop_eq_nil_of_le
  simp; omega

theorem delete_ev (ps : List Place) (i : Nat) (hi : i < ps.length) (hlen : ps.length ≤ 1000000000000) : Ev E 18 [.msl 7 (ps.map Place.v) 0 ps.length, .int .i64 i, .int .i64 (i + 1)] ⟨.sl 0 0 0 (ps.length - 1), [(0, (ps.eraseIdx i).map Place.v ++ [Place.zero.v])]⟩ := by
  refine Ev.of_wpc E_18 (X_18 _) rfl ?_
  rw [f18_b]
  have hA : (0 : Int) ≤ ↑i + 1 := by omega
  have hB : i ≤ i + 1 := by omega
  have hC : i + 1 ≤ ps.length := hi
  have hD : ¬ ((i : Int) = ↑i + 1) := by omega
  have hF : (ps.length - (i + 1)) + (i + 1) = ps.length := by omega
  have hG : 0 ≤ i := by omega
  have hH : i ≤ ps.length := by omega
  have hI : i + 1 + (ps.length - (i + 1)) ≤ ps.length := by omega
  have hJ : i + (ps.length - (i + 1)) ≤ 1927910799188 := by omega
  have hK : i + (ps.length - (i + 1)) ≤ ps.length := by omega
  have hw : AM.window (ps.map Place.v) (i + 1) (ps.length - (i + 1)) = ((ps.drop (i + 1)).map Place.v) := by
    rw [window_map]; congr 1; rw [List.take_of_length_le]; simp
  have hL : i + (ps.length - (i + 1)) = ps.length - 1 := by omega
  have hp1 := Place.pures (ps.drop (i + 1))
  have hM : ps.length - 1 ≤ ps.length := by omega
  have hN : ps.length - (ps.length - 1) = 1 := by omega
  have hO : (overwrite (ps.map Place.v) i ((ps.drop (i + 1)).map Place.v)).length = ps.length := by simp [overwrite]; omega
  have hQ : ps.length - 1 + 1 ≤ ps.length := by omega
  have hz : (V.agg [.int .i64 0, .int .i64 0, .int .i64 0, .str [], .str [], .int .i64 0, .int .i64 0]) = Place.zero.v := rfl
  have hR : overwrite (overwrite (ps.map Place.v) i ((ps.drop (i + 1)).map Place.v)) (ps.length - 1) [Place.zero.v] = (ps.eraseIdx i).map Place.v ++ [Place.zero.v] := by
    have := erase_overwrite (xs := ps.map Place.v) (z := Place.zero.v) (i := i) (by simpa using hi)
    have e : (ps.map Place.v).eraseIdx i = (ps.eraseIdx i).map Place.v := by
      simp [List.eraseIdx_eq_take_drop_succ, List.map_take, List.map_drop]
    rw [e] at this
    simpa using this
  have hS : V.arePure ((ps.eraseIdx i).map Place.v ++ [Place.zero.v]) = true := by
    have := Place.pures (ps.eraseIdx i ++ [Place.zero]); simpa using this
  simp only [go_sem, Nat.reduceAdd, Nat.reduceSub, Nat.reduceMul, Nat.reduceEqDiff, Nat.reduceLT, Nat.reduceLeDiff, Nat.reduceBEq, reduceCtorEq, Int.reduceToNat, Int.reduceAdd, Int.reduceSub, Int.reduceMul, Int.reduceNeg, Int.reduceLE, Int.reduceLT, Int.reduceEq, ↓reduceIte, enter, hA, hB, hC, hD, List.length_map]
  refine wpc_drawn_of ?_
  have hJ' : ps.length - 1 ≤ 1927910799188 := by omega
  have hzb : (Place.zero.v.cells.length == 7 && (Place.zero.v.isAgg || Place.zero.v.isCell)) = true := rfl
  have hle : (ps.eraseIdx i).length = ps.length - 1 := List.length_eraseIdx_of_lt hi
  have hT : ps.length - 1 ≤ ((ps.eraseIdx i).map Place.v ++ [Place.zero.v]).length := by simp [hle]
  have hU : V.arePure (AM.window ((ps.eraseIdx i).map Place.v ++ [Place.zero.v]) 0 (ps.length - 1)) = true := by
    have e : AM.window ((ps.eraseIdx i).map Place.v ++ [Place.zero.v]) 0 (ps.length - 1) = (ps.eraseIdx i).map Place.v := by
      simp only [AM.window, List.drop_zero]
      rw [List.take_left' (by simp [hle])]
    rw [e]; exact Place.pures _
  simp only [go_sem, Nat.reduceAdd, Nat.reduceSub, Nat.reduceMul, Nat.reduceEqDiff, Nat.reduceLT, Nat.reduceLeDiff, Nat.reduceBEq, reduceCtorEq, Int.reduceToNat, Int.reduceAdd, Int.reduceSub, Int.reduceMul, Int.reduceNeg, Int.reduceLE, Int.reduceLT, Int.reduceEq, ↓reduceIte, hJ', hzb, hT, hU, hM, hN, hO, hQ, hz, hR, hS, enter, hA, hB, hC, hD, List.length_map, hG, hH, hI, hw, hp1, app_sl (Place.blanks (ps.drop (i + 1))), List.length_drop, hJ, hK, hL]
  rfl

theorem copied_ev {ps : List Place} {pv : V} (hp : IsSl 7 (ps.map Place.v) pv) (hlen : ps.length ≤ 1000000000000) : Ev E 16 [.agg [.nils, .nils, .nils, pv]] ⟨.agg [.own 4 [], .own 5 [], .own 8 [], .own 7 (ps.map Place.v)], []⟩ := by
  have hpp := hp.pure
  refine Ev.of_wpc E_16 (X_16 _) rfl ?_
  rw [enter_pure (by simp [V.arePure, V.isPure, *]), f16_b]
  simp only [go_sem, Nat.reduceAdd, Nat.reduceSub, Nat.reduceMul, Nat.reduceEqDiff, Nat.reduceLT, Nat.reduceLeDiff, Nat.reduceBEq, reduceCtorEq, Int.reduceToNat, Int.reduceAdd, Int.reduceSub, Int.reduceMul, Int.reduceNeg, Int.reduceLE, Int.reduceLT, Int.reduceEq, ↓reduceIte]
  refine wpc_drawn_of ?_
  simp only [go_sem, Nat.reduceAdd, Nat.reduceSub, Nat.reduceMul, Nat.reduceEqDiff, Nat.reduceLT, Nat.reduceLeDiff, Nat.reduceBEq, reduceCtorEq, Int.reduceToNat, Int.reduceAdd, Int.reduceSub, Int.reduceMul, Int.reduceNeg, Int.reduceLE, Int.reduceLT, Int.reduceEq, ↓reduceIte]
  refine wpf_ext rfl rfl (Ev.ext rfl) ?_
  simp only [go_sem, Nat.reduceAdd, Nat.reduceSub, Nat.reduceMul, Nat.reduceEqDiff, Nat.reduceLT, Nat.reduceLeDiff, Nat.reduceBEq, reduceCtorEq, Int.reduceToNat, Int.reduceAdd, Int.reduceSub, Int.reduceMul, Int.reduceNeg, Int.reduceLE, Int.reduceLT, Int.reduceEq, ↓reduceIte]
  refine wpf_ext rfl rfl (Ev.ext rfl) ?_
  simp only [go_sem, Nat.reduceAdd, Nat.reduceSub, Nat.reduceMul, Nat.reduceEqDiff, Nat.reduceLT, Nat.reduceLeDiff, Nat.reduceBEq, reduceCtorEq, Int.reduceToNat, Int.reduceAdd, Int.reduceSub, Int.reduceMul, Int.reduceNeg, Int.reduceLE, Int.reduceLT, Int.reduceEq, ↓reduceIte]
  refine wpf_ext rfl rfl (Ev.ext rfl) ?_
  simp only [go_sem, Nat.reduceAdd, Nat.reduceSub, Nat.reduceMul, Nat.reduceEqDiff, Nat.reduceLT, Nat.reduceLeDiff, Nat.reduceBEq, reduceCtorEq, Int.reduceToNat, Int.reduceAdd, Int.reduceSub, Int.reduceMul, Int.reduceNeg, Int.reduceLE, Int.reduceLT, Int.reduceEq, ↓reduceIte]
  have hcl : Ev E 31 [pv] ⟨.own 7 (ps.map Place.v), []⟩ := by
    rcases hp with rfl | ⟨rfl, h⟩
    · refine Ev.ext ?_
      rw [X_31]
      simp [cloneV]; omega
    · rw [h]; exact Ev.ext rfl
  refine wpf_ext rfl (by simp [V.arePure, hpp]) hcl ?_
  simp only [go_sem, Nat.reduceAdd, Nat.reduceSub, Nat.reduceMul, Nat.reduceEqDiff, Nat.reduceLT, Nat.reduceLeDiff, Nat.reduceBEq, reduceCtorEq, Int.reduceToNat, Int.reduceAdd, Int.reduceSub, Int.reduceMul, Int.reduceNeg, Int.reduceLE, Int.reduceLT, Int.reduceEq, ↓reduceIte]
  refine ⟨by rfl, ?_⟩
  rw [wpc_loop]
  simp only [go_sem, Nat.reduceAdd, Nat.reduceSub, Nat.reduceMul, Nat.reduceEqDiff, Nat.reduceLT, Nat.reduceLeDiff, Nat.reduceBEq, reduceCtorEq, Int.reduceToNat, Int.reduceAdd, Int.reduceSub, Int.reduceMul, Int.reduceNeg, Int.reduceLE, Int.reduceLT, Int.reduceEq, ↓reduceIte]
  rw [wpc_loop]
  simp only [go_sem, Nat.reduceAdd, Nat.reduceSub, Nat.reduceMul, Nat.reduceEqDiff, Nat.reduceLT, Nat.reduceLeDiff, Nat.reduceBEq, reduceCtorEq, Int.reduceToNat, Int.reduceAdd, Int.reduceSub, Int.reduceMul, Int.reduceNeg, Int.reduceLE, Int.reduceLT, Int.reduceEq, ↓reduceIte, window_all (xs := ps.map Place.v) rfl, Place.pures ps]

/-- the place into which one was joined -/
def joinP (a b : Place) : Place := { b with weight := if 255 < IntKind.i64.wrap (b.weight + a.weight) then 255 else IntKind.i64.wrap (b.weight + a.weight), name := if b.name = [] then a.name else b.name }
def applyP (ps : List Place) (i k : Nat) (a b : Place) : List Place := (ps.set k (joinP a b)).eraseIdx i

theorem apply_err {ps : List Place} {pv : V} (hp : IsSl 7 (ps.map Place.v) pv) (hlen : ps.length ≤ 1000000000000) {place into : Int} (h : canP ps place into ≠ 0) :
    Ev E 7 [.agg [.nils, .nils, .nils, pv], .int .i64 place, .int .i64 into] ⟨.tuple [.agg [.nils, .nils, .nils, .nils], .int .i64 (canP ps place into)], []⟩ := by
  have hpp := hp.pure
  have hpure : V.arePure [.agg [.nils, .nils, .nils, pv], .int .i64 place, .int .i64 into] = true := by simp [V.arePure, V.isPure, *]
  refine Ev.of_wpc E_7 (X_7 _) rfl ?_
  rw [enter_pure hpure, f7_b]
  simp only [go_sem, Nat.reduceAdd, Nat.reduceSub, Nat.reduceMul, Nat.reduceEqDiff, Nat.reduceLT, Nat.reduceLeDiff, Nat.reduceBEq, reduceCtorEq, Int.reduceToNat, Int.reduceAdd, Int.reduceSub, Int.reduceMul, Int.reduceNeg, Int.reduceLE, Int.reduceLT, Int.reduceEq, ↓reduceIte]
  refine wpa_pure E_8 rfl hpure (can_ev rfl rfl rfl hp (by omega) place into) ?_
  simp only [go_sem, Nat.reduceAdd, Nat.reduceSub, Nat.reduceMul, Nat.reduceEqDiff, Nat.reduceLT, Nat.reduceLeDiff, Nat.reduceBEq, reduceCtorEq, Int.reduceToNat, Int.reduceAdd, Int.reduceSub, Int.reduceMul, Int.reduceNeg, Int.reduceLE, Int.reduceLT, Int.reduceEq, ↓reduceIte, h, hpp]

theorem apply_ok {ps : List Place} {pv : V} (hp : IsSl 7 (ps.map Place.v) pv) (hlen : ps.length ≤ 1000000000000) {place into : Int} (h : canP ps place into = 0) {i k : Nat} {a b : Place}
    (hi : findP ps place = i) (hk : findP ps into = k) (ha : ps[i]? = some a) (hb : ps[k]? = some b) :
    Ev E 7 [.agg [.nils, .nils, .nils, pv], .int .i64 place, .int .i64 into] ⟨.tuple [.agg [.own 4 [], .own 5 [], .own 8 [], .own 7 ((applyP ps i k a b).map Place.v)], .int .i64 0], []⟩ := by
  have hpp := hp.pure
  have hpure : V.arePure [.agg [.nils, .nils, .nils, pv], .int .i64 place, .int .i64 into] = true := by simp [V.arePure, V.isPure, *]
  have hne : ps ≠ [] := by rintro rfl; simp at ha
  refine Ev.of_wpc E_7 (X_7 _) rfl ?_
  rw [enter_pure hpure, f7_b]
  simp only [go_sem, Nat.reduceAdd, Nat.reduceSub, Nat.reduceMul, Nat.reduceEqDiff, Nat.reduceLT, Nat.reduceLeDiff, Nat.reduceBEq, reduceCtorEq, Int.reduceToNat, Int.reduceAdd, Int.reduceSub, Int.reduceMul, Int.reduceNeg, Int.reduceLE, Int.reduceLT, Int.reduceEq, ↓reduceIte]
  refine wpa_pure E_8 rfl hpure (can_ev rfl rfl rfl hp (by omega) place into) ?_
  simp only [go_sem, Nat.reduceAdd, Nat.reduceSub, Nat.reduceMul, Nat.reduceEqDiff, Nat.reduceLT, Nat.reduceLeDiff, Nat.reduceBEq, reduceCtorEq, Int.reduceToNat, Int.reduceAdd, Int.reduceSub, Int.reduceMul, Int.reduceNeg, Int.reduceLE, Int.reduceLT, Int.reduceEq, ↓reduceIte, h, hpp]
  refine wpa_pure E_15 rfl hpure (both_ev rfl rfl rfl hp (by omega) place into) ?_
  simp only [go_sem, Nat.reduceAdd, Nat.reduceSub, Nat.reduceMul, Nat.reduceEqDiff, Nat.reduceLT, Nat.reduceLeDiff, Nat.reduceBEq, reduceCtorEq, Int.reduceToNat, Int.reduceAdd, Int.reduceSub, Int.reduceMul, Int.reduceNeg, Int.reduceLE, Int.reduceLT, Int.reduceEq, ↓reduceIte, hi, hk]
  refine wpa_pure E_16 rfl (by simp [V.arePure, V.isPure, hpp]) (copied_ev hp (by omega)) ?_
  have hil : i < ps.length := (List.getElem?_eq_some_iff.1 ha).1
  have hkl : k < ps.length := (List.getElem?_eq_some_iff.1 hb).1
  have ha' : (ps.map Place.v)[i]? = some a.v := by simp [ha]
  have hb' : (ps.map Place.v)[k]? = some b.v := by simp [hb]
  simp only [go_sem, Nat.reduceAdd, Nat.reduceSub, Nat.reduceMul, Nat.reduceEqDiff, Nat.reduceLT, Nat.reduceLeDiff, Nat.reduceBEq, reduceCtorEq, Int.reduceToNat, Int.reduceAdd, Int.reduceSub, Int.reduceMul, Int.reduceNeg, Int.reduceLE, Int.reduceLT, Int.reduceEq, ↓reduceIte, List.length_map, hkl]
  refine wpc_drawn_of ?_
  simp only [go_sem, Nat.reduceAdd, Nat.reduceSub, Nat.reduceMul, Nat.reduceEqDiff, Nat.reduceLT, Nat.reduceLeDiff, Nat.reduceBEq, reduceCtorEq, Int.reduceToNat, Int.reduceAdd, Int.reduceSub, Int.reduceMul, Int.reduceNeg, Int.reduceLE, Int.reduceLT, Int.reduceEq, ↓reduceIte, List.length_map, hkl, hil, ha', hb', idx_sl hp, Place.v]
  refine ⟨by rfl, ?_⟩
  have hset : ∀ x, ((ps.map Place.v).set k x)[k]? = some x := fun x => List.getElem?_set_self (by simpa using hkl)
  refine wpc_drawn_of ?_
  simp only [go_sem, Nat.reduceAdd, Nat.reduceSub, Nat.reduceMul, Nat.reduceEqDiff, Nat.reduceLT, Nat.reduceLeDiff, Nat.reduceBEq, reduceCtorEq, Int.reduceToNat, Int.reduceAdd, Int.reduceSub, Int.reduceMul, Int.reduceNeg, Int.reduceLE, Int.reduceLT, Int.reduceEq, ↓reduceIte, List.length_map, hkl, hil, ha', hb', idx_sl hp, Place.v, hset, List.length_set, List.set_set, hset]
  simp only [go_sem, Nat.reduceAdd, Nat.reduceSub, Nat.reduceMul, Nat.reduceEqDiff, Nat.reduceLT, Nat.reduceLeDiff, Nat.reduceBEq, reduceCtorEq, Int.reduceToNat, Int.reduceAdd, Int.reduceSub, Int.reduceMul, Int.reduceNeg, Int.reduceLE, Int.reduceLT, Int.reduceEq, ↓reduceIte, doCall, wpa_call, wpf_call, prepare.eq_1, prepare.eq_2, prepare.eq_3, prepare.eq_4, prepare.eq_5, prepare.eq_6, prepare.eq_7, snap, snapV_pure, snapV.eq_2, snapV.eq_3, snapV.eq_4, snapV.eq_5, snapV.eq_6, snapV.eq_7, snapL.eq_1, snapL.eq_2, snapAll, E_17, f17, hset]
  refine ⟨_, orStr_ev b.name a.name, ?_⟩
  simp only [go_sem, Nat.reduceAdd, Nat.reduceSub, Nat.reduceMul, Nat.reduceEqDiff, Nat.reduceLT, Nat.reduceLeDiff, Nat.reduceBEq, reduceCtorEq, Int.reduceToNat, Int.reduceAdd, Int.reduceSub, Int.reduceMul, Int.reduceNeg, Int.reduceLE, Int.reduceLT, Int.reduceEq, ↓reduceIte, List.length_map, hkl, hil, ha', hb', idx_sl hp, Place.v, hset, List.length_set, List.set_set, hset]
  refine ⟨by rfl, ?_⟩
  have hM : (ps.map Place.v).set k (.agg [.int .i64 b.id, .int .i64 b.x, .int .i64 b.y, .str b.cls, .str (if b.name = [] then a.name else b.name), .int .i64 (if 255 < IntKind.i64.wrap (b.weight + a.weight) then 255 else IntKind.i64.wrap (b.weight + a.weight)), .int .i64 b.dist]) = (ps.set k (joinP a b)).map Place.v := by
    rw [List.map_set]; rfl
  have hsl : (ps.set k (joinP a b)).length = ps.length := List.length_set
  have hdel := delete_ev (ps.set k (joinP a b)) i (by rw [hsl]; exact hil) (by rw [hsl]; exact hlen)
  rw [hsl] at hdel
  rw [wrap64 (by omega) (by omega)]
  simp only [go_sem, Nat.reduceAdd, Nat.reduceSub, Nat.reduceMul, Nat.reduceEqDiff, Nat.reduceLT, Nat.reduceLeDiff, Nat.reduceBEq, reduceCtorEq, Int.reduceToNat, Int.reduceAdd, Int.reduceSub, Int.reduceMul, Int.reduceNeg, Int.reduceLE, Int.reduceLT, Int.reduceEq, ↓reduceIte, doCall, wpa_call, wpf_call, prepare.eq_1, prepare.eq_2, prepare.eq_3, prepare.eq_4, prepare.eq_5, prepare.eq_6, prepare.eq_7, snap, snapV_pure, snapV.eq_2, snapV.eq_3, snapV.eq_4, snapV.eq_5, snapV.eq_6, snapV.eq_7, snapL.eq_1, snapL.eq_2, snapAll, E_18, f18, List.set_set, hM, List.length_map, hsl, Place.pures]
  refine ⟨_, hdel, ?_⟩
  have hle : ((ps.set k (joinP a b)).eraseIdx i).length = ps.length - 1 := by rw [List.length_eraseIdx_of_lt (by rw [hsl]; exact hil), hsl]
  have hT : ps.length - 1 ≤ (((ps.set k (joinP a b)).eraseIdx i).map Place.v ++ [Place.zero.v]).length := by simp [hle]
  have hU : AM.window (((ps.set k (joinP a b)).eraseIdx i).map Place.v ++ [Place.zero.v]) 0 (ps.length - 1) = (applyP ps i k a b).map Place.v := by
    simp only [AM.window, List.drop_zero]
    rw [List.take_left' (by simp [hle])]; rfl
  simp only [go_sem, Nat.reduceAdd, Nat.reduceSub, Nat.reduceMul, Nat.reduceEqDiff, Nat.reduceLT, Nat.reduceLeDiff, Nat.reduceBEq, reduceCtorEq, Int.reduceToNat, Int.reduceAdd, Int.reduceSub, Int.reduceMul, Int.reduceNeg, Int.reduceLE, Int.reduceLT, Int.reduceEq, ↓reduceIte, hpp, hT, hU, Place.pures]
end Go.AM
