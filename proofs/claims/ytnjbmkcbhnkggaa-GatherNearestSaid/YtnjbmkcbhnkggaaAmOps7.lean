/-
  Operations of the abstract machine against the model's: built values and slices, type assertions. Own work.
-/
import Derived.Test.YtnjbmkcbhnkggaaAmOps6
set_option linter.unusedSimpArgs false
namespace Go.AM
open Go Go.RowKit

theorem run_mapM_list {α β : Type} {P : Program} {w : World} {f : α → Sem β} {g : α → β} : ∀ (l : List α), (∀ x ∈ l, (f x).run P w = .ok (g x) w) → (l.mapM f).run P w = .ok (l.map g) w
  | [], _ => by simp
  | x :: l, h => by
    have h1 := h x (by simp)
    have h2 := run_mapM_list (f := f) (g := g) l fun y hy => h y (by simp [hy])
    simp [List.mapM_cons, Sem.run_bind, h1, h2]

theorem run_mapM_array {α β : Type} {P : Program} {w : World} {f : α → Sem β} {g : α → β} (l : Array α) (h : ∀ x ∈ l.toList, (f x).run P w = .ok (g x) w) : (l.mapM f).run P w = .ok (l.map g) w := by
  have := run_mapM_list l.toList h
  rw [Array.mapM_eq_mapM_toList]
  simp only [map_eq_pure_bind, Sem.run_bind, this, Result.andThen_ok, Sem.run_pure]
  congr 1
  apply Array.ext'; simp

section
variable {X : Ctx} {E : Env} {C : Oracle} {o : Oper} {a : Go.Act} {T : Nat → V} {μ : Mu} {v : V} {σ' : St}

theorem run_evParts : ∀ (ps : List (Nat × Nat × AOpd)) (k : List (Nat × Nat × V) → Act) (σ : St), (evParts ps k).run C σ = (k (ps.map fun p => (p.1, p.2.1, evalOpd σ p.2.2))).run C σ
  | [], _, _ => rfl
  | (_, _, x) :: ps, k, σ => by simp only [evParts, run_ev, run_evParts ps, List.map_cons]

theorem trParts_rel (hr : Rel X T a μ) (O : Nat → Obj) {place : Nat → Option (Nat × Nat)} : ∀ {ps : List (Nat × Operand)} {as : List (Nat × Nat × AOpd)}, trParts X place ps = some as →
    as.length = ps.length ∧ ∀ (i : Nat) p q, as[i]? = some p → ps[i]? = some q → place q.1 = some (p.1, p.2.1) ∧ VRel X μ (evalOpd ⟨T, O⟩ p.2.2) (a.eval q.2)
  | [], as, h => by simp [trParts] at h; subst h; simp
  | (i, x) :: ps, as, h => by
    simp only [trParts] at h
    split at h
    · rename_i off sz y as' h1 h2 h3
      injection h with h; subst h
      obtain ⟨k1, k2⟩ := trParts_rel hr O h3
      refine ⟨by simp [k1], fun j p q hp hq => ?_⟩
      cases j with
      | zero => simp at hp hq; subst hp; subst hq; exact ⟨h1, trO_rel hr h2 O⟩
      | succ j => exact k2 j p q (by simpa using hp) (by simpa using hq)
    · simp at h

theorem build_fill (hr : Rel X T a μ) {t : TypeId} {z : List V} (hz : zeroT X t = some (.agg z)) {place : Nat → Option (Nat × Nat)} {parts : Array (Nat × Operand)} {as : List (Nat × Nat × AOpd)}
    (hp : trParts X place parts.toList = some as) (hrun : (opAct E (.build z as)).run C ⟨T, μ.O⟩ = some (v, σ')) :
    σ' = ⟨T, μ.O⟩ ∧ ∃ zv cells, (zeroValue t).run X.P μ.w = .ok zv μ.w ∧ Instr.fill place zv.cells (parts.map fun (i, x) => (i, a.eval x)).toList = some cells ∧ VRel X μ v (.agg cells) := by
  simp only [opAct, run_evParts] at hrun
  obtain ⟨zv, hz1, hz2⟩ := zero_run hz μ.w
  obtain ⟨hzr, _⟩ := constV_rel (X := X) (μ := μ) hz2
  simp only [VRel] at hzr
  obtain ⟨h0, xs, rfl, hxs⟩ := hzr
  obtain ⟨l1, l2⟩ := trParts_rel hr μ.O hp
  split at hrun
  · rename_i cs hcs
    obtain ⟨rfl, rfl⟩ := run_done hrun
    have key := fill_rel (X := X) (μ := μ) (place := place) (ps := as.map fun p => (p.1, p.2.1, evalOpd ⟨T, μ.O⟩ p.2.2)) (qs := (parts.map fun (i, x) => (i, a.eval x)).toList) (xs := xs)
      (by simp [l1]) (fun j p q hp hq => by
        simp only [List.getElem?_map, Option.map_eq_some_iff] at hp
        obtain ⟨p', hp', rfl⟩ := hp
        rw [Array.toList_map, List.getElem?_map, Option.map_eq_some_iff] at hq
        obtain ⟨q', hq', rfl⟩ := hq
        exact l2 j p' q' hp' hq') hxs h0 hcs
    obtain ⟨xs', g1, g2, g3⟩ := key
    exact ⟨rfl, _, xs', hz1, g1, by simp only [VRel]; exact ⟨g3, xs', rfl, g2⟩⟩
  · exact absurd hrun run_fail

theorem op_buildS {t : TypeId} {parts : Array (Nat × Operand)} {z : List V} {fs : Array Field} {as : List (Nat × Nat × AOpd)} (hr : Rel X T a μ) (ho : o.op = .build t parts) (hz : zeroT X t = some (.agg z))
    (hd : descT X t = some (.struct fs)) (hall : fs.toList.all (fun f => (sizeT X f.type).isSome) = true)
    (hp : trParts X (fun i => match fs[i]? with | some f => (sizeT X f.type).map fun s => (f.offset, s) | none => none) parts.toList = some as)
    (hrun : (opAct E (.build z as)).run C ⟨T, μ.O⟩ = some (v, σ')) : σ'.T = T ∧ Done X o a μ σ'.O v := by
  obtain ⟨rfl, zv, cells, h1, h2, h3⟩ := build_fill hr hz hp hrun
  refine ⟨rfl, done_pure hr.objs ?_ h3⟩
  simp only [execOp, ho]
  refine run_v ?_
  have hd' : X.P.underlying t = some (.struct fs) := hd
  have hm := run_mapM_array (P := X.P) (w := μ.w) (f := fun f : Field => do pure (f.offset, ← sizeOf f.type)) (g := fun f : Field => (f.offset, (sizeT X f.type).getD 0)) fs (fun f hf => by
    simp only [List.all_eq_true] at hall
    obtain ⟨s, hs⟩ := Option.isSome_iff_exists.1 (hall f hf)
    simp [Sem.run_bind, run_sizeT hs, hs])
  have hpl : (fun (i : Nat) => (fs.map fun (f : Field) => (f.offset, (sizeT X f.type).getD 0))[i]?) = fun (i : Nat) => match fs[i]? with | some f => (sizeT X f.type).map fun s => (f.offset, s) | none => none := by
    funext i
    rw [Array.getElem?_map]
    cases hf : fs[i]? with
    | none => rfl
    | some f =>
      simp only [List.all_eq_true] at hall
      obtain ⟨s, hs⟩ := Option.isSome_iff_exists.1 (hall f (by simpa using Array.mem_of_getElem? hf))
      simp [hs]
  simp only [Instr.build, Sem.run_bind, h1, Result.andThen_ok, run_underlying hd', hm, hpl, h2, Sem.run_pure]

theorem op_buildA {t e : TypeId} {n s : Nat} {parts : Array (Nat × Operand)} {z : List V} {as : List (Nat × Nat × AOpd)} (hr : Rel X T a μ) (ho : o.op = .build t parts) (hz : zeroT X t = some (.agg z))
    (hd : descT X t = some (.array n e)) (hs : sizeT X e = some s) (hp : trParts X (fun i => some (i * s, s)) parts.toList = some as)
    (hrun : (opAct E (.build z as)).run C ⟨T, μ.O⟩ = some (v, σ')) : σ'.T = T ∧ Done X o a μ σ'.O v := by
  obtain ⟨rfl, zv, cells, h1, h2, h3⟩ := build_fill hr hz hp hrun
  refine ⟨rfl, done_pure hr.objs ?_ h3⟩
  simp only [execOp, ho]
  refine run_v ?_
  have hd' : X.P.underlying t = some (.array n e) := hd
  simp only [Instr.build, Sem.run_bind, h1, Result.andThen_ok, run_underlying hd', run_sizeT hs, h2, Sem.run_pure]

/-! ### built slices -/
theorem evElems_sound (hr : Rel X T a μ) : ∀ {ps : List (Nat × Operand)} {as : List (Nat × AOpd)} {k : List (Nat × V) → Act} {O : Nat → Obj} {p : V × St}, trElems X ps = some as → Le μ ⟨μ.w, μ.φ, O⟩ → Objs X ⟨μ.w, μ.φ, O⟩ →
    (evElems as k).run C ⟨T, O⟩ = some p →
    ∃ vs O', (k vs).run C ⟨T, O'⟩ = some p ∧ vs.length = ps.length ∧ Le ⟨μ.w, μ.φ, O⟩ ⟨μ.w, μ.φ, O'⟩ ∧ Objs X ⟨μ.w, μ.φ, O'⟩ ∧
      ∀ (i : Nat) q q', vs[i]? = some q → ps[i]? = some q' → q.1 = q'.1 ∧ VRel X ⟨μ.w, μ.φ, O'⟩ q.2 (a.eval q'.2)
  | [], as, k, O, p, h, le, ho, hrun => by
    simp [trElems] at h; subst h
    exact ⟨[], O, hrun, rfl, Le.refl _, ho, by simp⟩
  | (i, x) :: ps, as, k, O, p, h, le, ho, hrun => by
    simp only [trElems] at h
    split at h
    · rename_i y as' h1 h2
      injection h with h; subst h
      simp only [evElems, run_ev] at hrun
      have hx : VRel X ⟨μ.w, μ.φ, O⟩ (evalOpd ⟨T, O⟩ y) (a.eval x) := by
        have := VRel.mono le (trO_rel hr h1 O)
        exact this
      obtain ⟨u, O1, k1, k2, k3, k4⟩ := frz_sound (μ := μ) ho hx hrun
      obtain ⟨vs, O2, g1, g2, g3, g4, g5⟩ := evElems_sound hr h2 (le.trans k3) k4 k1
      refine ⟨(i, u) :: vs, O2, g1, by simp [g2], k3.trans g3, g4, fun j q q' hq hq' => ?_⟩
      cases j with
      | zero => simp at hq hq'; subst hq; subst hq'; exact ⟨rfl, VRel.mono g3 k2⟩
      | succ j => exact g5 j q q' (by simpa using hq) (by simpa using hq')
    · simp at h

theorem set_eq_take_drop {α : Type} (L : List α) (i : Nat) (x : α) (h : i < L.length) : L.set i x = L.take i ++ [x] ++ L.drop (i + 1) := by
  rw [set_eq_splice L i x h]; rfl

theorem fillElems_rel {sz : Nat} : ∀ {vs : List (Nat × V)} {qs : List (Nat × Value)} {es es' : List V} {us : List Value} {c : Array Value}, vs.length = qs.length →
    (∀ (i : Nat) p q, vs[i]? = some p → qs[i]? = some q → p.1 = q.1 ∧ VRel X μ p.2 q.2) → VRels X μ es us → Spells c.toList 0 sz us → c.size = us.length * sz → es.all (isBlank · sz) = true →
    fillElems sz es vs = some es' → ∃ c' us', Instr.fill (fun i => some (i * sz, sz)) c qs = some c' ∧ VRels X μ es' us' ∧ Spells c'.toList 0 sz us' ∧ c'.size = us'.length * sz ∧
      es'.all (isBlank · sz) = true ∧ es'.length = es.length
  | [], [], es, es', us, c, _, _, hv, hs, hc, hb, h => by
    simp [fillElems] at h; subst h
    exact ⟨c, us, rfl, hv, hs, hc, hb, rfl⟩
  | [], _ :: _, _, _, _, _, h, _, _, _, _, _, _ => by simp at h
  | _ :: _, [], _, _, _, _, h, _, _, _, _, _, _ => by simp at h
  | (i, u) :: vs, (i', q) :: qs, es, es', us, c, hl, hp, hv, hs, hc, hb, h => by
    simp only [fillElems] at h
    split at h
    · rename_i hcond
      obtain ⟨hi, hbl⟩ := hcond
      obtain ⟨e1, hrel⟩ := hp 0 _ _ rfl rfl
      simp only at e1 hrel
      subst e1
      obtain ⟨hlies, hcl⟩ := isBlank_lies hbl
      have hqs : q.cells.size = sz := by rw [hrel.cells_size hlies, hcl]
      have hiu : i < us.length := by rw [← hv.length]; exact hi
      have hmul : (i + 1) * sz ≤ us.length * sz := Nat.mul_le_mul_right _ (by omega)
      rw [Nat.add_mul] at hmul
      have hfit : i * sz + q.cells.size ≤ c.size := by omega
      have hstep := fill_step (x := q) (cs := c) hfit
      have hflat : flat [q] = q.cells.toList := by simp [flat]
      have hw := hs.write (k := i) (us := [q]) (by omega) (by simpa using hqs) (by rw [len_toList]; simp; omega)
      rw [hflat, Nat.zero_add] at hw
      have hset : us.take i ++ [q] ++ us.drop (i + [q].length) = us.set i q := (set_eq_take_drop us i q hiu).symm
      rw [hset, ← hstep] at hw
      have hsz : (q.cells.zipIdx.foldl (fun cs (p : Value × Nat) => cs.setIfInBounds (i * sz + p.2) p.1) c).size = (us.set i q).length * sz := by
        rw [← len_toList, hstep, splice_length (by rw [len_toList, len_toList]; exact hfit), len_toList]; simpa using hc
      have hbl2 : (es.set i u).all (isBlank · sz) = true := by
        simp only [List.all_eq_true] at hb ⊢
        intro y hy
        rcases List.mem_or_eq_of_mem_set hy with hm | rfl
        · exact hb y hm
        · exact hbl
      obtain ⟨c', us', g1, g2, g3, g4, g5, g6⟩ := fillElems_rel (vs := vs) (qs := qs) (by simpa using hl) (fun j p q' hj hj' => hp (j + 1) p q' (by simpa using hj) (by simpa using hj')) (VRels.set hv i hrel) hw hsz hbl2 h
      refine ⟨c', us', ?_, g2, g3, g4, g5, by simpa using g6⟩
      have hcond2 : ¬ (q.cells.size ≠ sz ∨ c.size < i * sz + q.cells.size) := by omega
      simp only [Instr.fill]
      rw [if_neg (by simpa using hcond2)]
      exact g1
    · simp at h

theorem op_buildSlice {t e : TypeId} {n sz r : Nat} {parts : Array (Nat × Operand)} {z : V} {as : List (Nat × AOpd)} (hr : Rel X T a μ) (ho : o.op = .buildSlice t n parts) (hd : descT X t = some (.slice e))
    (hn : sizeT X e = some sz) (hz : zeroT X e = some z) (hp : trElems X parts.toList = some as) (hrun : (opAct E (.buildSlice r sz z n as)).run C ⟨T, μ.O⟩ = some (v, σ')) : σ'.T = T ∧ Done X o a μ σ'.O v := by
  simp only [opAct] at hrun
  obtain ⟨vs, O1, k1, k2, k3, k4, k5⟩ := evElems_sound hr hp (Le.refl μ) hr.objs hrun
  split at k1
  · rename_i es hes
    split at k1
    · rename_i hc
      simp only [Bool.and_eq_true, decide_eq_true_eq] at hc
      obtain ⟨hbz, hsz, hlim⟩ := hc
      simp only [Act.run, Option.some.injEq, Prod.mk.injEq] at k1
      obtain ⟨rfl, rfl⟩ := k1
      refine ⟨rfl, ?_⟩
      obtain ⟨zv, hz1, hz2⟩ := zero_run hz μ.w
      obtain ⟨hzr, hzl⟩ := constV_rel (X := X) (μ := ⟨μ.w, μ.φ, O1⟩) hz2
      have hzs : zv.cells.size = sz := by rw [hzr.cells_size hzl, (isBlank_lies hbz).2]
      obtain ⟨q1, q2⟩ := zeros_spell (n := n) hzs
      have hbr : (List.replicate n z).all (isBlank · sz) = true := by
        simp only [List.all_eq_true, List.mem_replicate]
        rintro y ⟨_, rfl⟩; exact hbz
      obtain ⟨c', us', g1, g2, g3, g4, g5, g6⟩ := fillElems_rel (X := X) (μ := ⟨μ.w, μ.φ, O1⟩) (sz := sz) (vs := vs) (qs := (parts.map fun (i, x) => (i, a.eval x)).toList) (by simp [k2]) (fun j p q hj hq => by
        rw [Array.toList_map, List.getElem?_map, Option.map_eq_some_iff] at hq
        obtain ⟨q', hq', rfl⟩ := hq
        exact k5 j p q' hj hq') (VRels.replicate hzr n) q2 (by rw [q1]; simp) hbr hes
      have hlen : es.length = n := by simpa using g6
      have hlen' : us'.length = n := by rw [← g2.length]; exact hlen
      obtain ⟨le2, ho2⟩ := new_obj (X := X) (μ := ⟨μ.w, μ.φ, O1⟩) k4 r sz n true (es := es) (vs := us') (c := c') e hsz (by omega) g5 g2 (by rw [g4, hlen']; exact Nat.le_refl _) (fun i u hu => by
        obtain ⟨m1, m2⟩ := g3 i u hu
        exact ⟨m1, fun j x hx => by simpa using m2 j x hx⟩)
      refine ⟨.slice (some ⟨μ.w.heap.size, 0, none⟩) n n, _, _, .inl ?_, ?_, k3.trans le2, ho2⟩
      · simp only [execOp, ho]
        refine run_v ?_
        have hd' : X.P.underlying t = some (.slice e) := hd
        have hlim' : ¬ n * sz > 2 ^ 24 := by
          have : (2:Nat) ^ 24 = 16777216 := by decide
          omega
        simp only [Instr.buildSlice, Sem.run_bind, run_underlying hd', Result.andThen_ok, run_sizeT hn]
        rw [if_neg hlim']
        have harr : ∀ zero : Array Value, (n * sz = 0 ∨ zero = zv.cells) → (Array.range (n * sz)).map (fun i => zero[i % zero.size]!) = (Array.range (n * sz)).map (fun i => zv.cells[i % zv.cells.size]!) := by
          rintro zero (h0 | rfl)
          · have hr0 : Array.range 0 = #[] := rfl
            rw [h0, hr0]; simp
          · rfl
        by_cases hm0 : n * sz = 0
        · rw [if_pos hm0]
          simp only [Sem.run_bind, Sem.run_pure, Result.andThen_ok]
          rw [harr #[] (.inl hm0), g1]
          simp only [newRow, Sem.run_bind, run_newObj, Result.andThen_ok, Sem.run_pure]
          rfl
        · rw [if_neg hm0]
          simp only [Sem.run_bind, hz1, Result.andThen_ok, Sem.run_pure]
          rw [harr zv.cells (.inr rfl), g1]
          simp only [newRow, Sem.run_bind, run_newObj, Result.andThen_ok, Sem.run_pure]
          rfl
      · simp only [VRel, upd_same]
        exact ⟨_, _, rfl, Nat.le_refl _, Nat.le_refl _, fun _ => ⟨by simp, by simp⟩⟩
    · exact absurd k1 run_fail
  · exact absurd k1 run_fail

/-! ### type assertions -/
theorem op_assert {x : Operand} {t0 t : TypeId} {ok : Bool} {x' : AOpd} {n : Nat} {z : V} (hr : Rel X T a μ) (ho : o.op = .typeAssert x t0 t ok) (hinj : ∀ t1 t2 k, X.tnum t1 = some k → X.tnum t2 = some k → t1 = t2)
    (hn : X.tnum t = some n) (h1 : trO X x = some x') (hz : zeroT X t = some z) (hd : ∃ d, descT X t = some d ∧ ∀ ms, d ≠ .interface ms)
    (hrun : (opAct E (.assert n ok z x')).run C ⟨T, μ.O⟩ = some (v, σ')) : σ'.T = T ∧ Done X o a μ σ'.O v := by
  simp only [opAct, run_ev] at hrun
  have hx := trO_rel hr h1 μ.O
  obtain ⟨d, hd1, hd2⟩ := hd
  have hd1' : X.P.underlying t = some d := hd1
  obtain ⟨zv, hz1, hz2⟩ := zero_run hz μ.w
  obtain ⟨hzr, _⟩ := constV_rel (X := X) (μ := μ) hz2
  have fin : ∀ val, (Instr.typeAssert (a.eval x) t0 t ok).run X.P μ.w = .ok val μ.w → (execOp a.eval o).run X.P μ.w = .ok (.value val) μ.w := fun val hv => by
    simp only [execOp, ho]
    exact run_v hv
  split at hrun
  · rename_i e
    rw [e] at hx; simp only [VRel] at hx
    split at hrun
    · rename_i hok
      obtain ⟨rfl, rfl⟩ := run_done hrun
      refine ⟨rfl, done_pure (val := .tuple #[zv, .bool false]) hr.objs (fin _ ?_) ?_⟩
      · simp only [Instr.typeAssert, Sem.run_bind, run_underlying hd1', Result.andThen_ok, hx]
        cases d <;> first | exact absurd rfl (hd2 _) | simp [hok, Sem.run_bind, hz1]
      · simp only [VRel]; exact ⟨_, rfl, by simp [VRels, VRel, hzr]⟩
    · exact absurd hrun run_fail
  · rename_i t' u e
    rw [e] at hx; simp only [VRel] at hx
    obtain ⟨t1, y, hy, ht1, hrel⟩ := hx
    split at hrun
    · rename_i htt
      obtain ⟨rfl, rfl⟩ := run_done hrun
      have hte : t1 = t := hinj t1 t n (by rw [ht1, htt]) hn
      refine ⟨rfl, done_pure (val := if ok then .tuple #[y, .bool true] else y) hr.objs (fin _ ?_) ?_⟩
      · simp only [Instr.typeAssert, Sem.run_bind, run_underlying hd1', Result.andThen_ok, hy]
        cases d <;> first | exact absurd rfl (hd2 _) | simp [hte]
      · cases ok
        · simpa using hrel
        · simp only [if_true, VRel]; exact ⟨_, rfl, by simp [VRels, VRel, hrel]⟩
    · rename_i htt
      split at hrun
      · rename_i hok
        obtain ⟨rfl, rfl⟩ := run_done hrun
        have hte : t1 ≠ t := fun e => htt (by rw [e, hn] at ht1; injection ht1 with ht1; exact ht1.symm)
        refine ⟨rfl, done_pure (val := .tuple #[zv, .bool false]) hr.objs (fin _ ?_) ?_⟩
        · simp only [Instr.typeAssert, Sem.run_bind, run_underlying hd1', Result.andThen_ok, hy]
          cases d <;> first | exact absurd rfl (hd2 _) | simp [hte, hok, Sem.run_bind, hz1]
        · simp only [VRel]; exact ⟨_, rfl, by simp [VRels, VRel, hzr]⟩
      · exact absurd hrun run_fail
  · exact absurd hrun run_fail

end
end Go.AM
