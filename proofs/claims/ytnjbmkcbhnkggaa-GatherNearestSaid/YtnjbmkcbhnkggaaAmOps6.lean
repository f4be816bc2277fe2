/-
  Operations of the abstract machine against the model's: stores into elements, built values. Own work.
-/
import Derived.Test.YtnjbmkcbhnkggaaAmOps5
set_option linter.unusedSimpArgs false
namespace Go.AM
open Go Go.RowKit

theorem set_eq_splice {α : Type} (L : List α) (p : Nat) (x : α) (h : p < L.length) : L.set p x = splice L p [x] := by
  apply List.ext_getElem?
  intro q
  rw [splice_get (by simp; omega), List.getElem?_set]
  by_cases hq : q < p
  · simp [hq]; omega
  · by_cases hq2 : p = q
    · subst hq2; simp [h]
    · have : ¬ q < p + 1 := by omega
      simp [hq, hq2, this]

theorem len_toList {α : Type} (xs : Array α) : xs.toList.length = xs.size := Array.length_toList

section
variable {X : Ctx} {E : Env} {C : Oracle} {o : Oper} {a : Go.Act} {T : Nat → V} {μ : Mu} {v : V} {σ' : St}

theorem putPart_rel {agg : Bool} {off sz : Nat} {e u e' : V} {x val : Value} (he : VRel X μ e x) (hl : e.lies = true) (hu : VRel X μ u val) (h : putPart agg off sz e u = some e') :
    ∃ x', VRel X μ e' x' ∧ e'.lies = true ∧ e'.cells.length = e.cells.length ∧ val.cells.size = sz ∧ off + sz ≤ x.cells.size ∧ x'.cells.toList = splice x.cells.toList off val.cells.toList ∧
      ∀ c ∈ val.cells.toList, c.oneCell' = true := by
  unfold putPart at h
  split at h
  · split at h
    · rename_i cs vs
      split at h <;> simp at h
      rename_i hc
      subst h
      simp only [VRel] at he hu
      obtain ⟨h0, xs, rfl, hx⟩ := he
      obtain ⟨k0, ys, rfl, hy⟩ := hu
      have l1 := hx.length
      have l2 := hy.length
      rw [len_toList xs] at l1
      rw [len_toList ys] at l2
      refine ⟨.agg (splice xs.toList off ys.toList).toArray, ?_, rfl, ?_, ?_, ?_, ?_, ?_⟩
      · simp only [VRel]
        refine ⟨?_, _, rfl, ?_⟩
        · have t1 := all_take (p := V.isCell) off h0
          have t2 := all_drop (p := V.isCell) (off + sz) h0
          simp only [List.all_append, t1, k0, t2, Bool.and_self]
        · have := ((VRels.take off hx).append hy).append (VRels.drop (off + sz) hx)
          simpa [splice, ← l2, hc.1] using this
      · simp [V.cells]; omega
      · simp only [Value.cells]; omega
      · simp only [Value.cells]; omega
      · simp [Value.cells]
      · intro c hcm
        simp only [Value.cells] at hcm
        obtain ⟨j, hj⟩ := List.getElem?_of_mem hcm
        have hlt : j < vs.length := by rw [hy.length]; exact (List.getElem?_eq_some_iff.1 hj).1
        obtain ⟨c', g1, g2⟩ := hy.get (List.getElem?_eq_getElem hlt)
        rw [hj] at g1; injection g1 with g1; subst g1
        simp only [List.all_eq_true] at k0
        exact (g2.oneCell (k0 _ (List.getElem_mem hlt))).1
    · simp at h
  · split at h
    · rename_i hcell
      obtain ⟨hone, hcs⟩ := hu.oneCell hcell.1
      have hlast : ∀ c ∈ val.cells.toList, c.oneCell' = true := by rw [hcs]; simpa using hone
      split at h
      · rename_i cs
        split at h <;> simp at h
        rename_i hoff
        subst h
        simp only [VRel] at he
        obtain ⟨h0, xs, rfl, hx⟩ := he
        have l1 := hx.length
        rw [len_toList xs] at l1
        refine ⟨.agg (xs.toList.set off val).toArray, ?_, rfl, ?_, ?_, ?_, ?_, hlast⟩
        · simp only [VRel]
          refine ⟨?_, _, rfl, by simpa using VRels.set hx off hu⟩
          simp only [List.all_eq_true] at h0 ⊢
          intro c hcm
          rcases List.mem_or_eq_of_mem_set hcm with hm | rfl
          · exact h0 c hm
          · exact hcell.1
        · simp [V.cells]
        · rw [hcs, hcell.2]; rfl
        · simp only [Value.cells]; omega
        · rw [hcs]
          simp only [Value.cells]
          rw [set_eq_splice _ _ _ (by rw [Array.length_toList]; omega)]
      · split at h <;> simp at h
        rename_i hne hc0
        subst h
        obtain ⟨_, hcx⟩ := he.oneCell hc0.1
        refine ⟨val, hu, by simp [V.lies, hcell.1], ?_, ?_, ?_, ?_, hlast⟩
        · rw [V.cells_of_isCell hcell.1, V.cells_of_isCell hc0.1]; rfl
        · rw [hcs, hcell.2]; rfl
        · rw [hcx, hcell.2, hc0.2]; simp
        · rw [hcs, hcx, hc0.2]; simp [splice]
    · simp at h

theorem storeVar_run {t : TypeId} {w : World} {g q sz : Nat} {cur : Array Value} {T0 : TypeId} {val : Value} (hn : sizeT X t = some sz) (hg : w.heap[g]? = some (.cells cur T0 (0, 0)))
    (hs : val.cells.size = sz) (hl : q + sz ≤ cur.size) (h1 : ∀ c ∈ val.cells.toList, c.oneCell' = true) :
    (storeVar t ⟨g, q, none⟩ val).run X.P w = .ok () (w.setRow g (splice cur.toList q val.cells.toList).toArray) := by
  have := run_store_row (P := X.P) hg val.cells.toList (by rw [Array.length_toList, hs]; exact hl) h1
  simp [storeVar, Sem.run_bind, run_sizeT hn, hs, this]

/-- an element's part is written: the object's view behind it -/
theorem putIn_sound {t : TypeId} {agg : Bool} {sz r g idx off : Nat} {u : V} {val : Value} {O : Nat → Obj} (ho : Objs X ⟨μ.w, μ.φ, O⟩) (hu : VRel X ⟨μ.w, μ.φ, O⟩ u val) (hn : sizeT X t = some sz)
    (hrun : (opAct.putIn agg sz r g idx off u).run C ⟨T, O⟩ = some (v, σ')) :
    σ'.T = T ∧ v = .tuple [] ∧ ∃ w' φ', (storeVar t ⟨(μ.φ r).blk, (μ.φ r).base + idx * (O r).sz + off, none⟩ val).run X.P μ.w = .ok () w' ∧ Le ⟨μ.w, μ.φ, O⟩ ⟨w', φ', σ'.O⟩ ∧ Objs X ⟨w', φ', σ'.O⟩ := by
  simp only [opAct.putIn, Act.run] at hrun
  split at hrun
  · rename_i es hes
    split at hrun
    · rename_i hc
      split at hrun
      · rename_i e he
        split at hrun
        · rename_i e' hp
          simp only [Act.run, Option.some.injEq, Prod.mk.injEq] at hrun
          obtain ⟨rfl, rfl⟩ := hrun
          obtain ⟨k1, k2, k3, k4⟩ := ho.ok r es hes
          simp only at k1 k2 k3 k4
          have hlt : idx < es.length := (List.getElem?_eq_some_iff.1 he).1
          have hc0 : (μ.φ r).cap ≠ 0 := by omega
          rcases k4 with k4 | ⟨c, T0, vs, hb, hroom, hvs, hrow⟩
          · exact absurd k4 hc0
          · obtain ⟨x, hx, hrel⟩ := hvs.get he
            have hbl : isBlank e (O r).sz = true := by
              simp only [List.all_eq_true] at k3
              exact k3 e (List.mem_of_getElem? he)
            obtain ⟨hlies, hcl⟩ := isBlank_lies hbl
            obtain ⟨x', p1, p2, p3, p4, p5, p6, p7⟩ := putPart_rel hrel hlies hu hp
            have hxs : x.cells.size = (O r).sz := by rw [hrel.cells_size hlies, hcl]
            have hsp : Spells c.toList (μ.φ r).base (O r).sz vs := spells_of_row hb hrow
            have hmul : (idx + 1) * (O r).sz ≤ (μ.φ r).cap * (O r).sz := Nat.mul_le_mul_right _ (by omega)
            have hroom2 : (μ.φ r).base + (idx + 1) * (O r).sz ≤ c.toList.length := by rw [Array.length_toList]; omega
            have hput := hsp.put (x' := x') hx hroom2 (m := val.cells.toList) (by rw [Array.length_toList, p4]; omega) p6
            have hst := storeVar_run (X := X) (t := t) (q := (μ.φ r).base + idx * (O r).sz + off) (val := val) hn hb p4 (by rw [Nat.add_mul] at hmul; omega) p7
            have hw := write_obj (μ := ⟨μ.w, μ.φ, O⟩) ho r hes hc.2 hb hc0 (c' := (splice c.toList ((μ.φ r).base + idx * (O r).sz + off) val.cells.toList).toArray)
              (by
                have : (splice c.toList ((μ.φ r).base + idx * (O r).sz + off) val.cells.toList).length = c.toList.length := splice_length (by
                  rw [Array.length_toList, Array.length_toList, p4]; rw [Nat.add_mul] at hmul; omega)
                simpa using this)
              (O r).gen (μ.φ r).base (μ.φ r).cap (es' := es.set idx e') (vs' := vs.set idx x') (.inl ⟨rfl, rfl, rfl⟩) hc0 (by simpa using k2)
              (by
                simp only [List.all_eq_true] at k3 ⊢
                intro y hy
                rcases List.mem_or_eq_of_mem_set hy with hm | rfl
                · exact k3 y hm
                · simp [isBlank, p2, p3, hcl])
              (VRels.set hvs idx p1) hroom (fun i y hy => by
                obtain ⟨q1, q2⟩ := hput i y hy
                exact ⟨q1, fun j z hz => by simpa using q2 j z hz⟩)
            refine ⟨rfl, rfl, _, _, hst, hw.1, hw.2⟩
        · exact absurd hrun run_fail
      · exact absurd hrun run_fail
    · exact absurd hrun run_fail
  · exact absurd hrun run_fail

theorem op_store {t : TypeId} {x y : Operand} {x' y' : AOpd} {agg : Bool} {sz : Nat} (hr : Rel X T a μ) (ho : o.op = .store t x y) (h1 : trO X x = some x') (h2 : trO X y = some y')
    (hn : sizeT X t = some sz) (hrun : (opAct E (.store agg sz x' y')).run C ⟨T, μ.O⟩ = some (v, σ')) : σ'.T = T ∧ Done X o a μ σ'.O v := by
  simp only [opAct, run_ev] at hrun
  have hx := trO_rel hr h1 μ.O
  have hy := trO_rel hr h2 μ.O
  split at hrun
  · rename_i r g idx off e
    rw [e] at hx
    simp only [VRel] at hx
    obtain ⟨p, hp, hge, haddr⟩ := hx
    have fin : ∀ w', (storeVar t p (a.eval y)).run X.P μ.w = .ok () w' → (execOp a.eval o).run X.P μ.w = .ok .skip w' := fun w' hw => by
      simp only [execOp, ho]
      refine run_u ?_
      simp [Instr.storeAt, Instr.sureAddr, Sem.run_bind, hp, hw]
    have main : ∀ {O : Nat → Obj} {u : V}, Le μ ⟨μ.w, μ.φ, O⟩ → Objs X ⟨μ.w, μ.φ, O⟩ → VRel X ⟨μ.w, μ.φ, O⟩ u (a.eval y) → (opAct.putIn agg sz r g idx off u).run C ⟨T, O⟩ = some (v, σ') →
        σ'.T = T ∧ Done X o a μ σ'.O v := by
      intro O u le hobj hu hput
      have hgO : (O r).gen = g := by
        simp only [opAct.putIn, Act.run] at hput
        split at hput
        · split at hput
          · rename_i hc; exact hc.1
          · exact absurd hput run_fail
        · exact absurd hput run_fail
      have hge2 := le.gen r
      simp only at hge2
      have hgm : (μ.O r).gen = g := by omega
      obtain ⟨_, hszO⟩ := le.row r (by simp only; omega)
      obtain ⟨q1, q2, w', φ', q3, q4, q5⟩ := putIn_sound (t := t) hobj hu hn hput
      refine ⟨q1, undef, w', φ', .inr ⟨fin w' ?_, rfl⟩, ?_, le.trans q4, q5⟩
      · rw [haddr hgm]
        simp only at hszO
        rw [← hszO]; exact q3
      · rw [q2]; simp only [VRel]; exact ⟨#[], rfl, by simp [VRels]⟩
    simp only [Act.run] at hrun
    split at hrun
    · rw [run_ev] at hrun
      obtain ⟨u, O1, k1, k2, k3, k4⟩ := frz_sound (μ := μ) hr.objs hy hrun
      exact main k3 k4 k2 k1
    · rw [run_ev] at hrun
      exact main (Le.refl μ) hr.objs hy hrun
  · exact absurd hrun run_fail

/-! ### built values -/
theorem foldl_set {off : Nat} : ∀ (m : List Value) (k : Nat) (cs : Array Value), off + k + m.length ≤ cs.size →
    ((m.zipIdx k).foldl (fun cs (p : Value × Nat) => cs.setIfInBounds (off + p.2) p.1) cs).toList = splice cs.toList (off + k) m
  | [], k, cs, _ => by simp [splice]
  | x :: m, k, cs, h => by
    simp only [List.zipIdx_cons, List.foldl_cons]
    simp at h
    rw [foldl_set m (k + 1) _ (by simp; omega)]
    rw [Array.toList_setIfInBounds]
    apply List.ext_getElem?
    intro q
    rw [splice_get (by simp; omega), splice_get (by simp; omega), List.getElem?_set]
    by_cases h1 : q < off + k
    · have : q < off + (k + 1) := by omega
      have h2 : ¬ off + k = q := by omega
      simp [h1, this, h2]
    · by_cases h2 : q = off + k
      · subst h2
        have h3 : off + k < off + (k + 1) := by omega
        have h4 : off + k < cs.size := by omega
        simp [h3, h4]
      · by_cases h3 : q < off + k + (m.length + 1)
        · have h4 : ¬ q < off + (k + 1) := by omega
          have h5 : q < off + (k + 1) + m.length := by omega
          have h6 : q - (off + k) = (q - (off + (k + 1))) + 1 := by omega
          simp [h1, h4, h3, h5, h6]
        · have h4 : ¬ q < off + (k + 1) := by omega
          have h5 : ¬ q < off + (k + 1) + m.length := by omega
          have h6 : ¬ off + k = q := by omega
          simp [h1, h4, h3, h5, h6]

theorem fill_step {off : Nat} {x : Value} {cs : Array Value} (h : off + x.cells.size ≤ cs.size) :
    (x.cells.zipIdx.foldl (fun cs (p : Value × Nat) => cs.setIfInBounds (off + p.2) p.1) cs).toList = splice cs.toList off x.cells.toList := by
  rw [← Array.foldl_toList, Array.toList_zipIdx]
  have := foldl_set (off := off) x.cells.toList 0 cs (by rw [Array.length_toList]; omega)
  simpa using this

theorem fill_rel {place : Nat → Option (Nat × Nat)} : ∀ {ps : List (Nat × Nat × V)} {qs : List (Nat × Value)} {cs cs' : List V} {xs : Array Value},
    (ps.length = qs.length) → (∀ (i : Nat) p q, ps[i]? = some p → qs[i]? = some q → place q.1 = some (p.1, p.2.1) ∧ VRel X μ p.2.2 q.2) → VRels X μ cs xs.toList → cs.all V.isCell = true →
    fillCells cs ps = some cs' → ∃ xs', Instr.fill place xs qs = some xs' ∧ VRels X μ cs' xs'.toList ∧ cs'.all V.isCell = true
  | [], [], cs, cs', xs, _, _, hv, hc, h => by
    simp [fillCells] at h; subst h
    exact ⟨xs, rfl, hv, hc⟩
  | [], _ :: _, _, _, _, h, _, _, _, _ => by simp at h
  | _ :: _, [], _, _, _, h, _, _, _, _ => by simp at h
  | (off, sz, u) :: ps, (i, q) :: qs, cs, cs', xs, hl, hp, hv, hc, h => by
    simp only [fillCells] at h
    split at h
    · rename_i hcond
      obtain ⟨h1, h2, h3⟩ := hcond
      obtain ⟨hplace, hrel⟩ := hp 0 _ _ rfl rfl
      simp only at hplace hrel
      have hqs : q.cells.size = sz := by rw [hrel.cells_size h3, h1]
      have hlen := hv.length
      rw [len_toList xs] at hlen
      have hfit : off + q.cells.size ≤ xs.size := by omega
      have hstep := fill_step (x := q) (cs := xs) hfit
      have hv2 : VRels X μ (cs.take off ++ u.cells ++ cs.drop (off + sz)) (q.cells.zipIdx.foldl (fun cs (p : Value × Nat) => cs.setIfInBounds (off + p.2) p.1) xs).toList := by
        rw [hstep]
        have := ((VRels.take off hv).append (hrel.cells h3)).append (VRels.drop (off + sz) hv)
        simpa [splice, hqs] using this
      have hc2 : (cs.take off ++ u.cells ++ cs.drop (off + sz)).all V.isCell = true := by
        have t1 := all_take (p := V.isCell) off hc
        have t2 := all_drop (p := V.isCell) (off + sz) hc
        simp only [List.all_append, t1, hrel.cells_isCell h3, t2, Bool.and_self]
      obtain ⟨xs', g1, g2, g3⟩ := fill_rel (place := place) (ps := ps) (qs := qs) (by simpa using hl) (fun j p q' hj hj' => hp (j + 1) p q' (by simpa using hj) (by simpa using hj')) hv2 hc2 h
      refine ⟨xs', ?_, g2, g3⟩
      have hcond2 : ¬ (q.cells.size ≠ sz ∨ xs.size < off + q.cells.size) := by omega
      simp only [Instr.fill, hplace]
      rw [if_neg (by simpa using hcond2)]
      exact g1
    · simp at h

end
end Go.AM
