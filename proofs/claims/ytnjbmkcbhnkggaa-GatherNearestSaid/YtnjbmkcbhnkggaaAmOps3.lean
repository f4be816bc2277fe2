/-
  Operations of the abstract machine against the model's: places in memory, slices, loads, built values. Own work.
-/
import Derived.Test.YtnjbmkcbhnkggaaAmOps2
set_option linter.unusedSimpArgs false
namespace Go.AM
open Go Go.RowKit

theorem addr_add (b q n : Nat) : (⟨b, q, none⟩ : Addr).add n = ⟨b, q + n, none⟩ := by unfold Addr.add; split <;> simp_all

theorem arePure_get : ∀ {xs : List V} {i : Nat} {x : V}, V.arePure xs = true → xs[i]? = some x → V.isPure x = true
  | [], _, _, _, h => by simp at h
  | y :: ys, 0, x, hp, h => by simp [V.arePure] at hp; simp at h; rw [← h]; exact hp.1
  | y :: ys, i + 1, x, hp, h => by simp [V.arePure] at hp; simp at h; exact arePure_get hp.2 h
theorem arePure_take : ∀ {xs : List V} (n : Nat), V.arePure xs = true → V.arePure (xs.take n) = true
  | _, 0, _ => by simp [V.arePure]
  | [], n + 1, _ => by simp [V.arePure]
  | y :: ys, n + 1, h => by simp [V.arePure] at h ⊢; exact ⟨h.1, arePure_take n h.2⟩
theorem arePure_drop : ∀ {xs : List V} (n : Nat), V.arePure xs = true → V.arePure (xs.drop n) = true
  | _, 0, h => by simpa using h
  | [], n + 1, _ => by simp [V.arePure]
  | y :: ys, n + 1, h => by simp [V.arePure] at h; simpa using arePure_drop n h.2
theorem all_take {p : V → Bool} {xs : List V} (n : Nat) (h : xs.all p = true) : (xs.take n).all p = true := by
  simp only [List.all_eq_true] at h ⊢
  exact fun x hx => h x (List.mem_of_mem_take hx)
theorem all_drop {p : V → Bool} {xs : List V} (n : Nat) (h : xs.all p = true) : (xs.drop n).all p = true := by
  simp only [List.all_eq_true] at h ⊢
  exact fun x hx => h x (List.mem_of_mem_drop hx)

theorem RowAt.drop {w : World} {b off sz : Nat} {vs : List Value} (h : RowAt w b off sz vs) (n : Nat) : RowAt w b (off + n * sz) sz (vs.drop n) := by
  intro i v hv
  simp only [List.getElem?_drop] at hv
  obtain ⟨h1, h2⟩ := h (n + i) v hv
  refine ⟨h1, fun j c hc => ?_⟩
  rw [← h2 j c hc]
  congr 2
  rw [Nat.add_mul]; omega
theorem RowAt.take {w : World} {b off sz : Nat} {vs : List Value} (h : RowAt w b off sz vs) (n : Nat) : RowAt w b off sz (vs.take n) := by
  intro i v hv
  rw [List.getElem?_take] at hv
  split at hv
  · exact h i v hv
  · simp at hv

section
variable {X : Ctx} {E : Env} {C : Oracle} {o : Oper} {a : Go.Act} {T : Nat → V} {μ : Mu} {v : V} {σ' : St}

/-! ### reading -/
theorem load_from {t : TypeId} {e u : V} {x : Value} {off sz : Nat} {agg : Bool} {w : World} {b q : Nat} (hx : VRel X μ e x) (hp : part agg off sz e = some u)
    (hg : aggT X t = some agg) (hn : sizeT X t = some sz) (hm : ∀ j c, x.cells[j]? = some c → w.cell? ⟨b, q + j, none⟩ = some c) :
    ∃ val, (loadVar t ⟨b, q + off, none⟩).run X.P w = .ok val w ∧ VRel X μ u val := by
  cases agg with
  | true =>
    obtain ⟨cs, rfl, hle, hv⟩ := part_agg_rel hx hp
    refine ⟨_, ?_, hv⟩
    have hl : (cs.extract off (off + sz)).toList.length = sz := by simp; omega
    have := run_loadCells_list (P := X.P) w ⟨b, q + off, none⟩ (cs.extract off (off + sz)).toList (fun j c hc => by
      rw [addr_add]
      have hc' : cs[off + j]? = some c := by
        rw [Array.toList_extract, List.extract_eq_take_drop, List.getElem?_take] at hc
        split at hc
        · simpa using hc
        · simp at hc
      have := hm (off + j) c (by simpa [Value.cells] using hc')
      rwa [← Nat.add_assoc] at this)
    rw [hl, Array.toArray_toList] at this
    simp [loadVar, Sem.run_bind, run_isAgg hg, run_sizeT hn, this]
  | false =>
    obtain ⟨_, c, hc, hv⟩ := part_cell_rel hx hp
    refine ⟨c, ?_, hv⟩
    have := hm off c hc
    simp [loadVar, Sem.run_bind, run_isAgg hg, this]

/-- an element of a live object, in memory -/
theorem obj_elem (ho : Objs X μ) {r idx : Nat} {es : List V} {e : V} (hes : (μ.O r).es = some es) (he : es[idx]? = some e) :
    ∃ x, VRel X μ e x ∧ (μ.φ r).cap ≠ 0 ∧ ∀ j c, x.cells[j]? = some c → μ.w.cell? ⟨(μ.φ r).blk, (μ.φ r).base + idx * (μ.O r).sz + j, none⟩ = some c := by
  obtain ⟨_, h2, _, h4⟩ := ho.ok r es hes
  have hlt : idx < es.length := (List.getElem?_eq_some_iff.1 he).1
  have hc : (μ.φ r).cap ≠ 0 := by omega
  rcases h4 with h4 | ⟨c, T', vs, _, _, hv, hrow⟩
  · exact absurd h4 hc
  · obtain ⟨x, hx, hr⟩ := hv.get he
    exact ⟨x, hr, hc, (hrow idx x hx).2⟩

theorem op_load {t : TypeId} {x : Operand} {x' : AOpd} {agg : Bool} {sz : Nat} (hr : Rel X T a μ) (ho : o.op = .load t x) (h1 : trO X x = some x') (hg : aggT X t = some agg) (hn : sizeT X t = some sz)
    (hrun : (opAct E (.load agg sz x')).run C ⟨T, μ.O⟩ = some (v, σ')) : σ'.T = T ∧ Done X o a μ σ'.O v := by
  simp only [opAct, run_ev] at hrun
  have hx := trO_rel hr h1 μ.O
  have fin : ∀ (p : Addr), a.eval x = .pointer (some p) → ∀ val, (loadVar t p).run X.P μ.w = .ok val μ.w → (execOp a.eval o).run X.P μ.w = .ok (.value val) μ.w := fun p hp val hv => by
    simp only [execOp, ho]
    refine run_v ?_
    simp [Instr.loadAt, Instr.sureAddr, Sem.run_bind, hp, hv]
  split at hrun
  · rename_i r g idx off e
    simp only [Act.run] at hrun
    split at hrun
    · rename_i es hes
      split at hrun
      · rename_i hgen
        split at hrun
        · rename_i el hel
          obtain ⟨hp, rfl⟩ := run_give hrun
          rw [e] at hx
          simp only [VRel] at hx
          obtain ⟨p, hpv, _, haddr⟩ := hx
          obtain ⟨xv, hxv, _, hmem⟩ := obj_elem hr.objs hes hel
          obtain ⟨val, hl, hrel⟩ := load_from hxv hp hg hn hmem
          refine ⟨rfl, done_pure hr.objs (fin p hpv val ?_) hrel⟩
          rw [haddr hgen]; exact hl
        · exact absurd hrun run_fail
      · exact absurd hrun run_fail
    · exact absurd hrun run_fail
  · rename_i el off e
    obtain ⟨hp, rfl⟩ := run_give hrun
    rw [e] at hx
    simp only [VRel] at hx
    obtain ⟨_, _, b, q, sz', xv, hpv, _, _, hxv, hrow⟩ := hx
    obtain ⟨val, hl, hrel⟩ := load_from (w := μ.w) (b := b) (q := q) hxv hp hg hn (fun j c hc => by simpa using (hrow 0 xv (by simp)).2 j c hc)
    exact ⟨rfl, done_pure hr.objs (fin _ hpv val hl) hrel⟩
  · exact absurd hrun run_fail

/-! ### indexes -/
theorem op_indexAddr {t e : TypeId} {x i : Operand} {x' i' : AOpd} {sz : Nat} (hr : Rel X T a μ) (ho : o.op = .indexAddr t x i) (hd : descT X t = some (.slice e)) (hn : sizeT X e = some sz)
    (h1 : trO X x = some x') (h2 : trO X i = some i') (hrun : (opAct E (.indexAddr sz x' i')).run C ⟨T, μ.O⟩ = some (v, σ')) : σ'.T = T ∧ Done X o a μ σ'.O v := by
  simp only [opAct, run_ev] at hrun
  have hx := trO_rel hr h1 μ.O
  have hi := trO_rel hr h2 μ.O
  have fin : ∀ (p : Addr) (len cap : Nat) (k : IntKind) (n : Int), a.eval x = .slice (some p) len cap → a.eval i = .int k n → 0 ≤ n → n < len →
      (execOp a.eval o).run X.P μ.w = .ok (.value (.pointer (some (p.add (n.toNat * sz))))) μ.w := fun p len cap k n hp hq hn0 hn1 => by
    simp only [execOp, ho]
    refine run_v ?_
    simp [Instr.indexAt, Sem.run_bind, hp, hq, asIntOf, run_underlying hd, hn0, hn1, run_sizeT hn]
  split at hrun
  · rename_i r g off len k n e1 e2
    simp only [Act.run] at hrun
    split at hrun
    · rename_i hc
      obtain ⟨rfl, rfl⟩ := run_done hrun
      rw [e1] at hx; rw [e2] at hi
      simp only [VRel] at hx hi
      obtain ⟨p, cap, hp, hlc, hge, haddr⟩ := hx
      obtain ⟨q1, q2⟩ := haddr hc.2.2.2
      have hcap : cap ≠ 0 := by omega
      have hpe := q2.resolve_left hcap
      rw [hpe] at hp
      refine ⟨rfl, done_pure hr.objs (fin _ len cap k n hp hi hc.1 hc.2.1) ?_⟩
      simp only [VRel]
      refine ⟨_, rfl, hge, fun _ => ?_⟩
      rw [addr_add, hc.2.2.1]
      simp only [Addr.mk.injEq, true_and, and_true]
      rw [Nat.add_mul]; omega
    · exact absurd hrun run_fail
  · rename_i sz' xs k n e1 e2
    split at hrun
    · rename_i hc
      split at hrun
      · rename_i el hel
        obtain ⟨rfl, rfl⟩ := run_done hrun
        rw [e1] at hx; rw [e2] at hi
        simp only [VRel] at hx hi
        obtain ⟨hpu, hli, p, cap, vs, hp, hlc, hvs, hmem⟩ := hx
        have hlt : n.toNat < xs.length := (List.getElem?_eq_some_iff.1 hel).1
        rcases hmem with hmem | ⟨b, q, hpq, hno, hbs, hrow⟩
        · subst hmem; simp at hlt
        · rw [hpq] at hp
          obtain ⟨xv, hxv, hrel⟩ := hvs.get hel
          refine ⟨rfl, done_pure hr.objs (fin _ xs.length cap k n hp hi hc.1 (by omega)) ?_⟩
          simp only [VRel]
          refine ⟨arePure_get hpu hel, ?_, b, q + n.toNat * sz, sz, xv, by rw [addr_add]; simp, hno, hbs, hrel, ?_⟩
          · simp only [List.all_eq_true] at hli
            exact hli el (List.mem_of_getElem? hel)
          · have := (hrow.drop n.toNat).take 1
            rw [hc.2] at this
            have hd1 : (vs.drop n.toNat).take 1 = [xv] := by
              have hl2 : n.toNat < vs.length := (List.getElem?_eq_some_iff.1 hxv).1
              rw [List.drop_eq_getElem_cons hl2, List.take_succ_cons, List.take_zero]
              rw [List.getElem?_eq_getElem hl2] at hxv
              injection hxv with hxv; rw [hxv]
            rwa [hd1] at this
      · exact absurd hrun run_fail
    · exact absurd hrun run_fail
  · exact absurd hrun run_fail

theorem op_indexArr {t e : TypeId} {x i : Operand} {x' i' : AOpd} {n sz : Nat} (hr : Rel X T a μ) (ho : o.op = .indexAddr t x i) (hd : descT X t = some (.array n e)) (hn : sizeT X e = some sz)
    (h1 : trO X x = some x') (h2 : trO X i = some i') (hrun : (opAct E (.indexArr n sz x' i')).run C ⟨T, μ.O⟩ = some (v, σ')) : σ'.T = T ∧ Done X o a μ σ'.O v := by
  simp only [opAct, run_ev] at hrun
  have hx := trO_rel hr h1 μ.O
  have hi := trO_rel hr h2 μ.O
  have fin : ∀ (p : Addr) (k : IntKind) (j : Int), a.eval x = .pointer (some p) → a.eval i = .int k j → 0 ≤ j → j < n →
      (execOp a.eval o).run X.P μ.w = .ok (.value (.pointer (some (p.add (j.toNat * sz))))) μ.w := fun p k j hp hq hn0 hn1 => by
    simp only [execOp, ho]
    refine run_v ?_
    simp [Instr.indexAt, Sem.run_bind, hp, hq, asIntOf, run_underlying hd, hn0, hn1, run_sizeT hn, Instr.sureAddr]
  split at hrun
  · rename_i r g idx off k j e1 e2
    split at hrun
    · rename_i hc
      obtain ⟨rfl, rfl⟩ := run_done hrun
      rw [e1] at hx; rw [e2] at hi
      simp only [VRel] at hx hi
      obtain ⟨p, hp, hge, haddr⟩ := hx
      refine ⟨rfl, done_pure hr.objs (fin p k j hp hi hc.1 hc.2) ?_⟩
      simp only [VRel]
      refine ⟨_, rfl, hge, fun hg => ?_⟩
      rw [haddr hg, addr_add]; simp [Nat.add_assoc]
    · exact absurd hrun run_fail
  · rename_i el off k j e1 e2
    split at hrun
    · rename_i hc
      obtain ⟨rfl, rfl⟩ := run_done hrun
      rw [e1] at hx; rw [e2] at hi
      simp only [VRel] at hx hi
      obtain ⟨hp0, hl0, b, q, sz', xv, hp, hrest⟩ := hx
      refine ⟨rfl, done_pure hr.objs (fin _ k j hp hi hc.1 hc.2) ?_⟩
      simp only [VRel]
      exact ⟨hp0, hl0, b, q, sz', xv, by rw [addr_add]; simp [Nat.add_assoc], hrest⟩
    · exact absurd hrun run_fail
  · exact absurd hrun run_fail

theorem op_indexStr {t : TypeId} {x i : Operand} {x' i' : AOpd} (hr : Rel X T a μ) (ho : o.op = .index t x i) (hd : descT X t = some .string)
    (h1 : trO X x = some x') (h2 : trO X i = some i') (hrun : (opAct E (.indexStr x' i')).run C ⟨T, μ.O⟩ = some (v, σ')) : σ'.T = T ∧ Done X o a μ σ'.O v := by
  simp only [opAct, run_ev] at hrun
  have hx := trO_rel hr h1 μ.O
  have hi := trO_rel hr h2 μ.O
  split at hrun
  · rename_i s k n e1 e2
    split at hrun
    · rename_i hc
      split at hrun
      · rename_i b hb
        obtain ⟨rfl, rfl⟩ := run_done hrun
        rw [e1] at hx; rw [e2] at hi
        simp only [VRel] at hx hi
        obtain ⟨bs, hbs, rfl⟩ := hx
        refine ⟨rfl, done_pure (val := .int .u8 b.toNat) hr.objs ?_ (by simp [VRel])⟩
        simp only [execOp, ho]
        refine run_v ?_
        have hb' : bs[n.toNat]? = some b := by
          have hlt := (List.getElem?_eq_some_iff.1 hb).1
          have hv := (List.getElem?_eq_some_iff.1 hb).2
          have hsz : n.toNat < bs.size := by rw [Array.length_toList] at hlt; exact hlt
          rw [getElem?_pos bs n.toNat hsz]
          congr 1
        simp [Instr.index, Sem.run_bind, hbs, hi, asIntOf, run_underlying hd, hc, hb']
      · exact absurd hrun run_fail
    · exact absurd hrun run_fail
  · exact absurd hrun run_fail

theorem op_indexVal {t e : TypeId} {x i : Operand} {x' i' : AOpd} {agg : Bool} {n sz : Nat} (hr : Rel X T a μ) (ho : o.op = .index t x i) (hd : descT X t = some (.array n e)) (hg : aggT X e = some agg)
    (hn : sizeT X e = some sz) (h1 : trO X x = some x') (h2 : trO X i = some i') (hrun : (opAct E (.indexVal agg n sz x' i')).run C ⟨T, μ.O⟩ = some (v, σ')) : σ'.T = T ∧ Done X o a μ σ'.O v := by
  simp only [opAct, run_ev] at hrun
  have hx := trO_rel hr h1 μ.O
  have hi := trO_rel hr h2 μ.O
  split at hrun
  · rename_i k j e2
    split at hrun
    · rename_i hc
      obtain ⟨hp, rfl⟩ := run_give hrun
      rw [e2] at hi
      simp only [VRel] at hi
      cases hy : evalOpd ⟨T, μ.O⟩ x' <;> rw [hy] at hc hx hp <;> simp [V.isAgg] at hc
      cases agg with
      | true =>
        obtain ⟨cs, hcs, hle, hv⟩ := part_agg_rel hx hp
        refine ⟨rfl, done_pure hr.objs ?_ hv⟩
        simp only [execOp, ho]
        refine run_v ?_
        simp [Instr.index, Sem.run_bind, hcs, hi, asIntOf, run_underlying hd, hc, run_sizeT hn, run_part_agg hg hn]
      | false =>
        obtain ⟨_, c, hcc, hv⟩ := part_cell_rel hx hp
        simp only [VRel] at hx
        obtain ⟨_, cs, hcs, _⟩ := hx
        rw [hcs] at hcc
        refine ⟨rfl, done_pure hr.objs ?_ hv⟩
        simp only [execOp, ho]
        refine run_v ?_
        simp [Instr.index, Sem.run_bind, hcs, hi, asIntOf, run_underlying hd, hc, run_sizeT hn, run_part_cell hg cs _ c (by simpa [Value.cells] using hcc)]
    · exact absurd hrun run_fail
  · exact absurd hrun run_fail

end
end Go.AM
