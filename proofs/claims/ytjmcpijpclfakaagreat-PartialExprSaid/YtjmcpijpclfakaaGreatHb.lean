/-
  Texts of the proof, joined by program: PFacC, PFacD. Own work.
-/
import Derived.Test.YtjmcpijpclfakaaGreatHa
import Derived.Test.YtjmcpijpclfakaaGreatF
set_option linter.unusedSimpArgs false
set_option linter.unusedVariables false
set_option maxRecDepth 20000
namespace Go.AM
theorem ptypeOf_ev (v : Int) : Ev E 375 [vi v] ⟨vi (varT v), []⟩ := by
  have h := pcheck_ev (.mk 2 v zeroVa false []) (by simp [Ex.size, Ex.sizes]) (.mk _ _ _ _ _ (by simp [zeroVa]) (by simp))
  have e1 : (Ex.mk 2 v zeroVa false []).ty = varT v := by
    simp [Ex.ty, Ex.size, Ex.sizes, Ex.typ, Ex.typs, headT, okHead, many, Va.zero, zeroVa]
  rw [e1] at h
  generalize (Ex.mk 2 v zeroVa false []).err = er at h
  have e2 : (Ex.mk 2 v zeroVa false []).v = .agg [vi 2, vi v, vi 0, vi 0, .bool false, .str [], .lit 7 []] := by
    rw [Ex.v_eq]; rfl
  rw [e2] at h
  refine Ev.of_s' E_375 (X_375 _) rfl ?_
  (conv => whnf); repeat' ((first | intro g | refine CallS.mk _ (h) ?_ | refine st ?_ | (first | refine b1 ?_ ?_ | refine b2 ?_ ?_ | refine Br.mk ?_ ?_) <;> intro hc | exact rfl) <;> conv => whnf)
theorem kdel_ev (k : Kno) (v : Int) : Ev E 374 [k.v, .eptr (vi v) 0] ⟨.bool (decide (k.var ≠ v)), []⟩ := by
  obtain ⟨t, hk, _⟩ := k.form4
  rw [hk]
  refine Ev.of_s' E_374 (X_374 _) rfl ?_
  (conv => whnf); repeat' ((first | intro g | refine st ?_ | (first | refine b1 ?_ ?_ | refine b2 ?_ ?_ | refine Br.mk ?_ ?_) <;> intro hc | exact rfl) <;> conv => whnf)
  all_goals simp
theorem firstIdx_cases2 {α : Type} (p : α → Bool) (l : List α) : (firstIdx p l = -1 ∧ ∀ (i : Nat) (x : α), l[i]? = some x → p x = false) ∨ ∃ (i : Nat) (x : α), firstIdx p l = (i : Int) ∧ l[i]? = some x ∧ p x = true ∧ ∀ (j : Nat) (y : α), j < i → l[j]? = some y → p y = false := by
  rcases firstIdx_cases p l with h | ⟨i, x, h1, h2, h3⟩
  · exact .inl h
  · refine .inr ⟨i, x, h1, h2, h3, ?_⟩
    unfold firstIdx at h1
    cases h : l.findIdx? p with
    | none => rw [h] at h1; simp at h1
    | some k =>
      rw [h] at h1
      rw [List.findIdx?_eq_some_iff_getElem] at h
      obtain ⟨hl, hp, hno⟩ := h
      intro j y hj hy
      obtain ⟨hjl, rfl⟩ := List.getElem?_eq_some_iff.1 hy
      have : k = i := by simp at h1; omega
      subst this
      simpa using hno j hj
theorem own_take {v : Int} {l : List Kno} {i : Nat} {x : Kno} (h : l[i]? = some x) : ownOf v (l.take (i + 1)) = ownOf v (l.take i) ++ (if decide (x.var = v) then [x] else []) := filter_take h
theorem own_len (v : Int) (l : List Kno) : (ownOf v l).length ≤ l.length := List.length_filter_le ..
set_option maxHeartbeats 1000000 in
theorem kdelf_ev {l : List Kno} (v : Int) (hl : l.length < 1000) : ∃ res, Ev E 372 [.msl 4 (l.map Kno.v) 0 l.length, .fn 374 [.eptr (vi v) 0]] res ∧ ∃ (b : Nat) (rest : List V), V.arePure rest = true ∧ res = ⟨.sl 0 b 0 (ownOf v l).length, [(b, (ownOf v l).map Kno.v ++ rest)]⟩ := by
  have key := Ev.of_s (R := fun r => ∃ (b : Nat) (rest : List V), V.arePure rest = true ∧ r = ⟨.sl 0 b 0 (ownOf v l).length, [(b, (ownOf v l).map Kno.v ++ rest)]⟩) E_372 (X_372 [.msl 4 (l.map Kno.v) 0 l.length, .fn 374 [.eptr (vi v) 0]]) rfl ?_
  · exact key
  have hidx := pindex_kno (l := l) (sv := .lit 4 (l.map Kno.v)) (.inl rfl) (g := 374) (caps := [.eptr (vi v) 0]) rfl (p := fun k => decide (k.var ≠ v)) (by omega) (fun x _ => kdel_ev x v) rfl
  have hKp : V.arePure (l.map Kno.v) = true := AM.pures Kno.pure l
  rcases firstIdx_cases2 (fun k : Kno => decide (k.var ≠ v)) l with ⟨h1, h2⟩ | ⟨i0, x0, h1, h2, h3, h4⟩
  · rw [h1] at hidx
    have e : ownOf v l = l := by
      rw [ownOf, List.filter_eq_self]
      intro y hy
      obtain ⟨j, hj⟩ := List.mem_iff_getElem?.1 hy
      simpa using h2 j y hj
    rw [e]
    (conv => whnf); repeat' ((first | intro g | refine CallS.mk _ (hidx) ?_ | refine st ?_ | (first | refine b1 ?_ ?_ | refine b2 ?_ ?_ | refine Br.mk ?_ ?_) <;> intro hc | exact rfl) <;> conv => whnf)
    exact ⟨0, [], rfl, by simp⟩
  · rw [h1] at hidx
    (conv => whnf); repeat' ((first | intro g | refine CallS.mk _ (hidx) ?_ | refine st ?_ | (first | refine b1 ?_ ?_ | refine b2 ?_ ?_ | refine Br.mk ?_ ?_) <;> intro hc | exact rfl) <;> conv => whnf)
    have hi0 := (List.getElem?_eq_some_iff.1 h2).1
    have hx0 : ¬ x0.var = v := by simpa using h3
    have hpre : ownOf v (l.take i0) = l.take i0 := by
      rw [ownOf, List.filter_eq_self]
      intro y hy
      obtain ⟨j, hj⟩ := List.mem_iff_getElem?.1 hy
      have hji : j < i0 := by
        have := (List.getElem?_eq_some_iff.1 hj).1
        simp at this; omega
      rw [List.getElem?_take_of_lt hji] at hj
      simpa using h4 j y hji hj
    refine LoopS.by (fun ((j, i, es) : Nat × Nat × List Kno) => ⟨[(0, .sl 0 0 0 l.length), (1, .fn 374 [.eptr (vi v) 0]), (5, vi i), (6, vi j)], [(0, ⟨0, 4, true, false, some (es.map Kno.v)⟩)]⟩)
      (fun (j, i, es) => j ≤ l.length ∧ i < j ∧ es.length = l.length ∧ es.take i = ownOf v (l.take j) ∧ es.drop j = l.drop j) (fun (j, _, _) => l.length - j) (i0 + 1, i0, l) (by (refine ⟨?_, ?_⟩ <;> repeat' (first | exact True.intro | refine ai ?_ | refine And.intro ?_ ?_))) ?_ ?_
    · refine ⟨by omega, by omega, rfl, ?_, rfl⟩
      rw [own_take h2, hpre]; simp [hx0]
    rintro ⟨j, i, es⟩ ⟨hj, hij, hes, htk, hdr⟩
    try dsimp only at hj hij hes htk hdr
    have lm : (es.map Kno.v).length = es.length := List.length_map ..
    by_cases hlt : j < l.length
    · have hx : l[j]? = some l[j] := get_lt hlt
      generalize l[j] = x at hx
      have hxe : es[j]? = some x := by
        have h5 : (es.drop j)[0]? = (l.drop j)[0]? := by rw [hdr]
        simpa [List.getElem?_drop, hx] using h5
      have hot := own_take (v := v) hx
      have hk := kdel_ev x v
      have hdr1 : es.drop (j + 1) = l.drop (j + 1) := by
        have h5 : (es.drop j).drop 1 = (l.drop j).drop 1 := by rw [hdr]
        simpa [List.drop_drop, Nat.add_comm] using h5
      by_cases hxx : x.var = v
      · have hset : (es.set i x).take (i + 1) = ownOf v (l.take (j + 1)) := by
          rw [hot, ← htk, hxx]
          simp only [decide_true, if_true]
          rw [List.take_add_one, List.take_set_of_le (by omega)]
          simp [List.getElem?_set, show i < es.length by omega]
        have hdr2 : (es.set i x).drop (j + 1) = l.drop (j + 1) := by
          rw [List.drop_set_of_lt (by omega), hdr1]
        rcases x.form with ⟨hxv, _⟩ | hxv <;> rw [hxv, hxx] at hk <;> rw [hxx] at hxv
        all_goals
          have e1 : ∀ w, x.v = w → (⟨0, 4, true, false, some ((es.map Kno.v).set ((i : Nat) : Int).toNat w)⟩ : Obj) = ⟨0, 4, true, false, some ((es.set i x).map Kno.v)⟩ := fun w hw => by rw [← hw]; simp [List.map_set]
          simp only [ne_eq, not_true_eq_false, decide_false] at hk
          (conv => whnf); repeat' ((first | intro g | refine Wit.mk _ (map_getE hxe hxv rfl) ?_ | refine CallS.mk _ (hk) ?_ | refine st ?_ | (first | refine b1 ?_ ?_ | refine b2 ?_ ?_ | refine Br.mk ?_ ?_) <;> intro hc | exact rfl) <;> conv => whnf)
          exact NxtS.mk (j + 1, i + 1, es.set i x) (by first | omega | (dsimp only; omega)) ⟨by omega, by omega, by simp [hes], hset, hdr2⟩ (by (refine ⟨?_, ?_⟩ <;> repeat' (first | exact True.intro | refine And.intro (e1 _ hxv) ?_ | refine ai ?_ | refine And.intro ?_ ?_)))
      · rcases x.form with ⟨hxv, _⟩ | hxv <;> rw [hxv] at hk
        all_goals
          simp only [ne_eq, hxx, not_false_eq_true, decide_true] at hk
          (conv => whnf); repeat' ((first | intro g | refine Wit.mk _ (map_getE hxe hxv rfl) ?_ | refine CallS.mk _ (hk) ?_ | refine st ?_ | (first | refine b1 ?_ ?_ | refine b2 ?_ ?_ | refine Br.mk ?_ ?_) <;> intro hc | exact rfl) <;> conv => whnf)
          exact NxtS.mk (j + 1, i, es) (by first | omega | (dsimp only; omega)) ⟨by omega, by omega, hes, by rw [htk, hot]; simp [hxx], hdr1⟩ (by (refine ⟨?_, ?_⟩ <;> repeat' (first | exact True.intro | refine ai ?_ | refine And.intro ?_ ?_)))
    · obtain rfl : j = l.length := by omega
      rw [List.take_length] at htk
      have hol : (ownOf v l).length = i := by rw [← htk]; simp; omega
      have hKe : V.arePure (es.map Kno.v) = true := AM.pures Kno.pure es
      (conv => whnf); repeat' ((first | intro g | refine Need.mk (by first | ((and_intros <;> first | rfl | exact arePure_overwrite hKe (arePure_replicate rfl) | exact arePure_win (arePure_overwrite hKe (arePure_replicate rfl)) | (simp only [overwrite, List.length_append, List.length_take, List.length_replicate, List.length_drop, List.length_map]; omega) | omega)) | fail) ?_ | refine st ?_ | (first | refine b1 ?_ ?_ | refine b2 ?_ ?_ | refine Br.mk ?_ ?_) <;> intro hc | exact rfl) <;> conv => whnf)
      simp only [Int.toNat_natCast, Nat.zero_add, Nat.sub_zero, overwrite, List.append_assoc]
      rw [hol, ← List.map_take, htk]
      exact ⟨0, _, arePure_append (arePure_replicate rfl) (arePure_of_all fun y hy => arePure_mem hKe y (List.mem_of_mem_drop hy)), rfl⟩
end Go.AM
set_option maxRecDepth 20000
namespace Go.AM
theorem hasnt_ev (k : Kno) (s : Str) (hk : k.texts.length < 1000) : Ev E 406 [k.v, .eptr (.str s) 0] ⟨.bool (!decide (s ∈ k.texts)), []⟩ := by
  obtain ⟨t, hkv, ht⟩ := k.form4
  have h := cont_ev ht s (by omega)
  have hpt := ht.pure (strs_pure _)
  have hpa : V.arePure [t, .str s] = true := by simp [V.arePure, V.isPure, hpt]
  have hm2 : modesOf E 349 = [] := rfl
  rw [hkv]
  refine Ev.of_s' E_406 (X_406 _) rfl ?_
  (conv => whnf); repeat' ((first | intro g | refine sAct_fn (by assumption) (by first | assumption | rfl | (simp only [V.arePure, V.isPure, Bool.and_self, Bool.true_and, Bool.and_true, *])) (h) rfl ?_ | refine st ?_ | (first | refine b1 ?_ ?_ | refine b2 ?_ ?_ | refine Br.mk ?_ ?_) <;> intro hc | exact rfl) <;> conv => whnf)
theorem any_common (own : List Kno) (s : Str) : (own.any fun k => !decide (s ∈ k.texts)) = !common own s := by
  unfold common
  induction own with
  | nil => rfl
  | cons k l ih => simp only [List.any_cons, List.all_cons, ih, Bool.not_and]
set_option maxHeartbeats 1000000 in
theorem ptexts_ev (own : List Kno) (hl : KFit own) : ∃ v, Ev E 376 [.lit 4 (own.map Kno.v)] ⟨v, []⟩ ∧ BdRes (textsB own) v := by
  have hlen := hl.len
  cases own with
  | nil =>
    refine ⟨_, ?_, .inl rfl⟩
    refine Ev.of_s' E_376 (X_376 _) rfl ?_
    (conv => whnf); repeat' ((first | intro g | refine st ?_ | (first | refine b1 ?_ ?_ | refine b2 ?_ ?_ | refine Br.mk ?_ ?_) <;> intro hc | exact rfl) <;> conv => whnf)
  | cons x0 rest =>
  have hcon := fun s => pcont_kno (l := x0 :: rest) (sv := .lit 4 ((x0 :: rest).map Kno.v)) (.inl rfl) (g := 406) (caps := [.eptr (.str s) 0]) rfl (p := fun k => !decide (s ∈ k.texts)) (by omega) (fun x hx => hasnt_ev x s (hl.tx x hx)) rfl
  simp only [any_common] at hcon
  have h3 : (x0 :: rest)[0]? = some x0 := rfl
  have hT : textsW (x0 :: rest) = union [] (x0.texts.filter (common (x0 :: rest))) := rfl
  have hx0t := hl.tx x0 (by simp)
  have hB : ∀ W : List Str, textsW (x0 :: rest) = W → textsB (x0 :: rest) = ⟨0, 0, true, W, !W.isEmpty, true⟩ := fun W h => by rw [textsB, h]
  obtain ⟨t0, hx0, ht0⟩ := x0.form4
  have key := Ev.of_s (R := fun r => ∃ v, r = ⟨v, []⟩ ∧ BdRes (textsB (x0 :: rest)) v) E_376 (X_376 [.lit 4 ((x0 :: rest).map Kno.v)]) rfl ?_
  · obtain ⟨r, h1, v, rfl, h2⟩ := key
    exact ⟨v, h1, h2⟩
  generalize common (x0 :: rest) = com at *
  generalize hown : x0 :: rest = own at *
  have hpos : 0 < (own.map Kno.v).length := by rw [← hown]; simp
  have hne : ¬ (own.map Kno.v).length = 0 := by omega
  have lm : (x0.texts.map V.str).length = x0.texts.length := List.length_map ..
  rcases ht0 with rfl | ⟨e0, rfl⟩
  rotate_left
  · have e1 : x0.texts = [] := by simpa using e0
    rw [e1] at hT
    have hT2 : textsW own = [] := hT
    rw [hB _ hT2]
    (conv => whnf); repeat' ((first | intro g | refine Wit.mk _ (map_getE h3 hx0 rfl) ?_ | refine st ?_ | (first | refine b1 ?_ ?_ | refine b2 ?_ ?_ | refine Br.mk ?_ ?_) <;> intro hc | exact rfl) <;> conv => whnf)
    rename_i g48
    refine LoopS.by (fun (i : Nat) => ⟨[(2, .ptr 48 g48 0 0), (3, .ptr 64 g 0 0), (16, vi 0), (17, vi 0)], [(48, ⟨g48, 5, false, false, some [_]⟩), (64, ⟨g, 5, false, false, some [_]⟩)]⟩) (fun i => i = 0) (fun i => 0) 0 (by (refine ⟨?_, ?_⟩ <;> repeat' (first | exact True.intro | refine ai ?_ | refine And.intro ?_ ?_))) rfl ?_
    rintro i rfl
    (conv => whnf); repeat' ((first | intro g | refine st ?_ | (first | refine b1 ?_ ?_ | refine b2 ?_ ?_ | refine Br.mk ?_ ?_) <;> intro hc | exact rfl) <;> conv => whnf)
    exact ⟨_, rfl, .inl rfl⟩
  (conv => whnf); repeat' ((first | intro g | refine Wit.mk _ (map_getE h3 hx0 rfl) ?_ | refine st ?_ | (first | refine b1 ?_ ?_ | refine b2 ?_ ?_ | refine Br.mk ?_ ?_) <;> intro hc | exact rfl) <;> conv => whnf)
  rename_i g48
  obtain ⟨g64, hg64⟩ : ∃ x, x = g := ⟨_, rfl⟩
  rw [← hg64]; clear hg64
  refine LoopS.by (fun ((i, L, ce) : Nat × List Str × Option Nat) => ⟨[(0, .lit 4 (own.map Kno.v)), (2, .ptr 48 g48 0 0), (3, .ptr 64 g64 0 0), (15, .lit 1 (x0.texts.map V.str)), (16, vnat (x0.texts.map V.str).length), (17, vnat i)],
      match ce with
      | none => [(48, ⟨g48, 5, false, false, some [.agg [vi 0, vi 0, .lit 1 [], .bool false, .bool false]]⟩), (64, ⟨g64, 5, false, false, some [.agg [vi 0, vi 0, .nils, .bool false, .bool true]]⟩)]
      | some g68 => [(48, ⟨g48, 5, false, false, some [.agg [vi 0, vi 0, .lit 1 [], .bool false, .bool false]]⟩), (64, ⟨g64, 5, false, false, some [.agg [vi 0, vi 0, .sl 68 g68 0 L.length, .bool false, .bool true]]⟩), (68, ⟨g68, 1, true, false, some (L.map V.str)⟩)]⟩)
    (fun (i, L, ce) => i ≤ x0.texts.length ∧ L.length ≤ i ∧ L = union [] ((x0.texts.take i).filter com) ∧ (ce = none → L = []) ∧ (L = [] → ce = none)) (fun (i, _, _) => x0.texts.length - i) (0, [], none) (by (refine ⟨?_, ?_⟩ <;> repeat' (first | exact True.intro | refine ai ?_ | refine And.intro ?_ ?_))) ⟨by simp, by simp, rfl, by simp, by simp⟩ ?_
  rintro ⟨i, L, ce⟩ ⟨hi, hLi, hL, hc1, hc2⟩
  try dsimp only at hi hLi hL hc1 hc2
  have lmL : (L.map V.str).length = L.length := List.length_map ..
  by_cases hlt : i < x0.texts.length
  · have hs : x0.texts[i]? = some x0.texts[i] := get_lt hlt
    generalize x0.texts[i] = s at hs
    have hft := filter_take (p := com) hs
    have hco := hcon s
    by_cases hcs : com s = true
    · rw [hcs] at hft hco
      simp only [if_true, Bool.not_true] at hft hco
      cases ce with
      | none =>
        obtain rfl := hc1 rfl
        have hhas := cont_ev (l := []) (sv := .nils) (.inr ⟨rfl, rfl⟩) s (by simp)
        simp only [hasS, List.not_mem_nil, decide_false] at hhas
        have hU := union_out (a := []) (b := (x0.texts.take i).filter com) (s := s) (by rw [← hL]; simp)
        rw [← hft, ← hL] at hU
        (conv => whnf); repeat' ((first | intro g | refine Wit.mk _ (map_getE hs rfl rfl) ?_ | refine CallS.mk _ (hco) ?_ | refine CallS.mk _ (hhas) ?_ | refine st ?_ | (first | refine b1 ?_ ?_ | refine b2 ?_ ?_ | refine Br.mk ?_ ?_) <;> intro hc | exact rfl) <;> conv => whnf)
        exact NxtS.mk (i + 1, [s], some g) (by first | omega | (dsimp only; omega)) ⟨by omega, by simp, hU.symm, by simp, by simp⟩ (by (refine ⟨?_, ?_⟩ <;> repeat' (first | exact True.intro | refine ai ?_ | refine And.intro ?_ ?_)))
      | some g68 =>
        have hhas := cont_ev (sv := .lit 1 (L.map V.str)) (.inl rfl) s (by omega)
        rw [hasS] at hhas
        by_cases hm : s ∈ L
        · rw [decide_eq_true hm] at hhas
          have hU := union_in (a := []) (b := (x0.texts.take i).filter com) (s := s) (by rw [← hL]; exact hm)
          rw [← hft, ← hL] at hU
          (conv => whnf); repeat' ((first | intro g | refine Wit.mk _ (map_getE hs rfl rfl) ?_ | refine CallS.mk _ (hco) ?_ | refine CallS.mk _ (hhas) ?_ | refine st ?_ | (first | refine b1 ?_ ?_ | refine b2 ?_ ?_ | refine Br.mk ?_ ?_) <;> intro hc | exact rfl) <;> conv => whnf)
          exact NxtS.mk (i + 1, L, some g68) (by first | omega | (dsimp only; omega)) ⟨by omega, by omega, hU.symm, hc1, hc2⟩ (by (refine ⟨?_, ?_⟩ <;> repeat' (first | exact True.intro | refine ai ?_ | refine And.intro ?_ ?_)))
        · rw [decide_eq_false hm] at hhas
          have hU := union_out (a := []) (b := (x0.texts.take i).filter com) (s := s) (by rw [← hL]; exact hm)
          rw [← hft, ← hL] at hU
          (conv => whnf); repeat' ((first | intro g | refine Wit.mk _ (map_getE hs rfl rfl) ?_ | refine CallS.mk _ (hco) ?_ | refine CallS.mk _ (hhas) ?_ | refine st ?_ | (first | refine b1 ?_ ?_ | refine b2 ?_ ?_ | refine Br.mk ?_ ?_) <;> intro hc | exact rfl) <;> conv => whnf)
          exact NxtS.mk (i + 1, L ++ [s], some g) (by first | omega | (dsimp only; omega)) ⟨by omega, by simp; omega, hU.symm, by simp, by simp⟩ (by (refine ⟨?_, ?_⟩ <;> repeat' (first | exact True.intro | refine ai ?_ | refine And.intro ?_ ?_)))
    · have hcs' : com s = false := by simpa using hcs
      rw [hcs'] at hft hco
      simp only [Bool.false_eq_true, if_false, List.append_nil, Bool.not_false] at hft hco
      rw [← hft] at hL
      cases ce with
      | none =>
        (conv => whnf); repeat' ((first | intro g | refine Wit.mk _ (map_getE hs rfl rfl) ?_ | refine CallS.mk _ (hco) ?_ | refine st ?_ | (first | refine b1 ?_ ?_ | refine b2 ?_ ?_ | refine Br.mk ?_ ?_) <;> intro hc | exact rfl) <;> conv => whnf)
        exact NxtS.mk (i + 1, L, none) (by first | omega | (dsimp only; omega)) ⟨by omega, by omega, hL, hc1, hc2⟩ (by (refine ⟨?_, ?_⟩ <;> repeat' (first | exact True.intro | refine ai ?_ | refine And.intro ?_ ?_)))
      | some g68 =>
        (conv => whnf); repeat' ((first | intro g | refine Wit.mk _ (map_getE hs rfl rfl) ?_ | refine CallS.mk _ (hco) ?_ | refine st ?_ | (first | refine b1 ?_ ?_ | refine b2 ?_ ?_ | refine Br.mk ?_ ?_) <;> intro hc | exact rfl) <;> conv => whnf)
        exact NxtS.mk (i + 1, L, some g68) (by first | omega | (dsimp only; omega)) ⟨by omega, by omega, hL, hc1, hc2⟩ (by (refine ⟨?_, ?_⟩ <;> repeat' (first | exact True.intro | refine ai ?_ | refine And.intro ?_ ?_)))
  · obtain rfl : i = x0.texts.length := by omega
    rw [List.take_length, ← hT] at hL
    rw [hB _ hL.symm]
    cases ce with
    | none =>
      obtain rfl := hc1 rfl
      (conv => whnf); repeat' ((first | intro g | refine st ?_ | (first | refine b1 ?_ ?_ | refine b2 ?_ ?_ | refine Br.mk ?_ ?_) <;> intro hc | exact rfl) <;> conv => whnf)
      exact ⟨_, rfl, .inl rfl⟩
    | some g68 =>
      cases L with
      | nil => exact absurd (hc2 rfl) (by simp)
      | cons y ys =>
        (conv => whnf); repeat' ((first | intro g | refine st ?_ | (first | refine b1 ?_ ?_ | refine b2 ?_ ?_ | refine Br.mk ?_ ?_) <;> intro hc | exact rfl) <;> conv => whnf)
        exact ⟨_, rfl, .inr ⟨rfl, by simp⟩⟩
end Go.AM
