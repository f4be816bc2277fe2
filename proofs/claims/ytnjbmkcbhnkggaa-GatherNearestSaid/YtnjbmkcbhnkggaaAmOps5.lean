/-
  Operations of the abstract machine against the model's: new objects, stores. Own work.
-/
import Derived.Test.YtnjbmkcbhnkggaaAmRow
import Derived.IntWalk
set_option linter.unusedSimpArgs false
namespace Go.AM
open Go Go.RowKit

theorem isBlank_lies {v : V} {sz : Nat} (h : isBlank v sz = true) : v.lies = true ∧ v.cells.length = sz := by
  simp [isBlank] at h; exact ⟨h.2, h.1⟩

theorem zero_run {X : Ctx} {t : TypeId} {z : V} (h : zeroT X t = some z) (w : World) : ∃ zv, (zeroValue t).run X.P w = .ok zv w ∧ constV zv = some z := by
  simp only [zeroT, info, Option.bind_eq_some_iff] at h
  obtain ⟨i, h1, zv, h2, h3⟩ := h
  exact ⟨zv, by simp [zeroValue, Sem.run_bind, run_typeInfo w h1, h2], h3⟩

theorem VRels.cells_one {X : Ctx} {μ : Mu} {ys : List V} {us : List Value} {sz : Nat} (h : VRels X μ ys us) (hb : ys.all (isBlank · sz) = true) :
    (∀ u ∈ us, u.cells.size = sz) ∧ ∀ c ∈ flat us, c.oneCell' = true := by
  have hh : ∀ u ∈ us, ∃ y, y ∈ ys ∧ VRel X μ y u := fun u hu => by
    obtain ⟨i, hi⟩ := List.getElem?_of_mem hu
    have hlt : i < ys.length := by rw [h.length]; exact (List.getElem?_eq_some_iff.1 hi).1
    obtain ⟨u', h1, h2⟩ := h.get (List.getElem?_eq_getElem hlt)
    rw [hi] at h1; injection h1 with h1; subst h1
    exact ⟨_, List.getElem_mem hlt, h2⟩
  simp only [List.all_eq_true] at hb
  refine ⟨fun u hu => ?_, fun c hc => ?_⟩
  · obtain ⟨y, hy, hr⟩ := hh u hu
    obtain ⟨h1, h2⟩ := isBlank_lies (hb y hy)
    rw [hr.cells_size h1, h2]
  · simp only [flat, List.mem_flatMap] at hc
    obtain ⟨u, hu, hcu⟩ := hc
    obtain ⟨y, hy, hr⟩ := hh u hu
    obtain ⟨h1, h2⟩ := isBlank_lies (hb y hy)
    obtain ⟨j, hj⟩ := List.getElem?_of_mem hcu
    have hcs := hr.cells h1
    have hlt : j < y.cells.length := by rw [hcs.length]; exact (List.getElem?_eq_some_iff.1 hj).1
    obtain ⟨u', g1, g2⟩ := hcs.get (List.getElem?_eq_getElem hlt)
    rw [hj] at g1; injection g1 with g1; subst g1
    have hic := hr.cells_isCell h1
    simp only [List.all_eq_true] at hic
    exact (g2.oneCell (hic _ (List.getElem_mem hlt))).1

theorem run_store_row {P : Program} {w : World} {g q : Nat} {cur : Array Value} {T : TypeId} (hg : w.heap[g]? = some (.cells cur T (0, 0))) (m : List Value) (hl : q + m.length ≤ cur.size)
    (h1 : ∀ v ∈ m, v.oneCell' = true) : (storeCells ⟨g, q, none⟩ m).run P w = .ok () (w.setRow g (splice cur.toList q m).toArray) := by
  have := run_storeCells_at (P := P) g q T m 0 cur w hg (by simpa using hl) h1
  simpa [splice] using this

section
variable {X : Ctx} {E : Env} {C : Oracle} {o : Oper} {a : Go.Act} {T : Nat → V} {μ : Mu} {v : V} {σ' : St}

/-! ### new objects -/
theorem done_new (hr : Rel X T a μ) {r sz : Nat} {arr : Bool} {es : List V} {vs : List Value} {c : Array Value} {t : TypeId} {val : Value} (hsz : 0 < sz) (cap : Nat)
    (hcap : es.length ≤ cap) (hbl : es.all (isBlank · sz) = true) (hrel : VRels X μ es vs) (hc : cap * sz ≤ c.size) (hrow : Spells c.toList 0 sz vs)
    (hrun : (execOp a.eval o).run X.P μ.w = .ok (.value val) (μ.w.alloc (.cells c t (0, 0))))
    (hv : let μ' : Mu := ⟨μ.w.alloc (.cells c t (0, 0)), upd μ.φ r ⟨μ.w.heap.size, 0, cap⟩, upd μ.O r { gen := (μ.O r).gen + 1, sz := sz, arr := arr, fz := false, es := some es }⟩; VRel X μ' v val) :
    Done X o a μ (upd μ.O r { gen := (μ.O r).gen + 1, sz := sz, arr := arr, fz := false, es := some es }) v := by
  obtain ⟨h1, h2⟩ := new_obj (X := X) hr.objs r sz cap arr (es := es) (vs := vs) (c := c) t hsz hcap hbl hrel hc (fun i u hu => by
    obtain ⟨k1, k2⟩ := hrow i u hu
    exact ⟨k1, fun j x hx => by simpa using k2 j x hx⟩)
  exact ⟨val, _, _, .inl hrun, hv, h1, h2⟩

theorem spells_one {x : Value} : Spells x.cells.toList 0 x.cells.size [x] := by
  intro i v hv
  cases i with
  | zero => simp at hv; subst hv; exact ⟨rfl, fun j y hy => by simpa using hy⟩
  | succ i => simp at hv

theorem op_new {t : TypeId} {x' : AOpd} {r sz : Nat} {xv : Value} (hr : Rel X T a μ) (hx : VRel X μ (evalOpd ⟨T, μ.O⟩ x') xv)
    (hreal : (execOp a.eval o).run X.P μ.w = .ok (.value (.pointer (some ⟨μ.w.heap.size, 0, none⟩))) (μ.w.alloc (.cells xv.cells t (0, 0))))
    (hrun : (opAct E (.new r sz x')).run C ⟨T, μ.O⟩ = some (v, σ')) : σ'.T = T ∧ Done X o a μ σ'.O v := by
  simp only [opAct, run_ev] at hrun
  split at hrun
  · rename_i hb
    simp only [Bool.and_eq_true, decide_eq_true_eq] at hb
    simp only [Act.run, Option.some.injEq, Prod.mk.injEq] at hrun
    obtain ⟨rfl, rfl⟩ := hrun
    obtain ⟨hl, hcl⟩ := isBlank_lies hb.1
    have hsz : xv.cells.size = sz := by rw [hx.cells_size hl, hcl]
    refine ⟨rfl, done_new hr (cap := 1) (es := [evalOpd ⟨T, μ.O⟩ x']) (vs := [xv]) (c := xv.cells) hb.2 (by simp) (by simp [hb.1]) (by simp [VRels, hx]) (by omega) (hsz ▸ spells_one) hreal ?_⟩
    simp only [VRel, upd_same]
    exact ⟨_, rfl, Nat.le_refl _, fun _ => by simp⟩
  · exact absurd hrun run_fail

theorem op_alloc {t : TypeId} {r sz : Nat} {z : V} (hr : Rel X T a μ) (ho : o.op = .alloc t) (hz : zeroT X t = some z)
    (hrun : (opAct E (.new r sz (.const z))).run C ⟨T, μ.O⟩ = some (v, σ')) : σ'.T = T ∧ Done X o a μ σ'.O v := by
  obtain ⟨zv, h1, h2⟩ := zero_run hz μ.w
  refine op_new (t := t) (xv := zv) hr (constV_rel h2).1 ?_ hrun
  simp only [execOp, ho]
  refine run_v ?_
  simp [Instr.alloc, Sem.run_bind, h1, newVar, newRow]

theorem op_box {t : TypeId} {r sz : Nat} {x : Operand} {x' : AOpd} (hr : Rel X T a μ) (ho : o.op = .box t x) (h1 : trO X x = some x')
    (hrun : (opAct E (.new r sz x')).run C ⟨T, μ.O⟩ = some (v, σ')) : σ'.T = T ∧ Done X o a μ σ'.O v := by
  refine op_new (t := t) (xv := a.eval x) hr (trO_rel hr h1 μ.O) ?_ hrun
  simp only [execOp, ho]
  refine run_v ?_
  simp [Instr.box, Sem.run_bind, newVar, newRow]

/-- cells of n copies -/
theorem zeros_spell {zv : Value} {sz n : Nat} (hz : zv.cells.size = sz) :
    ((Array.range (n * sz)).map (fun i => zv.cells[i % zv.cells.size]!)).size = n * sz ∧
      Spells ((Array.range (n * sz)).map (fun i => zv.cells[i % zv.cells.size]!)).toList 0 sz (List.replicate n zv) := by
  refine ⟨by simp, fun i v hv => ?_⟩
  rw [List.getElem?_replicate] at hv
  split at hv <;> simp at hv
  rename_i hi
  subst hv
  refine ⟨hz, fun j x hx => ?_⟩
  have hj : j < sz := hz ▸ (Array.getElem?_eq_some_iff.1 hx).1
  have hlt := cell_lt hj hi
  have hm : (i * sz + j) % sz = j := by rw [Nat.mul_comm, Nat.mul_add_mod]; exact Nat.mod_eq_of_lt hj
  have hr : (Array.range (n * sz))[i * sz + j]? = some (i * sz + j) := by simp [hlt]
  simp only [Nat.zero_add, Array.toList_map, List.getElem?_map]
  rw [Array.getElem?_toList, hr]
  simp only [Option.map_some, hz, hm]
  rw [getElem!_def, hx]

theorem VRels.replicate {z : V} {zv : Value} (h : VRel X μ z zv) : ∀ n, VRels X μ (List.replicate n z) (List.replicate n zv)
  | 0 => by simp [VRels]
  | n + 1 => by simp only [List.replicate_succ, VRels]; exact ⟨h, VRels.replicate h n⟩

theorem op_makeSlice {t e : TypeId} {x y : Operand} {x' y' : AOpd} {r sz : Nat} {i : TypeInfo} {z : V} (hr : Rel X T a μ) (ho : o.op = .makeSlice t x y) (hd : descT X t = some (.slice e)) (hn : sizeT X e = some sz)
    (hi : info X e = some i) (hz : zeroT X e = some z) (h1 : trO X x = some x') (h2 : trO X y = some y')
    (hrun : (opAct E (.makeSlice r sz i.bytes z x' y')).run C ⟨T, μ.O⟩ = some (v, σ')) : σ'.T = T ∧ Done X o a μ σ'.O v := by
  simp only [opAct, run_ev] at hrun
  have hx := trO_rel hr h1 μ.O
  have hy := trO_rel hr h2 μ.O
  split at hrun
  · rename_i k n k' m e1 e2
    split at hrun
    · rename_i hc
      obtain ⟨hc1, hc2, hc3, hc4, hc5, hc6⟩ := hc
      simp only [Act.run, Option.some.injEq, Prod.mk.injEq] at hrun
      obtain ⟨rfl, rfl⟩ := hrun
      rw [e1] at hx; rw [e2] at hy
      simp only [VRel] at hx hy
      obtain ⟨zv, hz1, hz2⟩ := zero_run hz μ.w
      obtain ⟨hzr, hzl⟩ := constV_rel (X := X) (μ := μ) hz2
      have hzs : zv.cells.size = sz := by rw [hzr.cells_size hzl, (isBlank_lies hc4).2]
      obtain ⟨hsz1, hsp⟩ := zeros_spell (n := m.toNat) hzs
      have hw1 : IntKind.i64.wrap n = n := IntWalk.i64_in _ (by omega)
      have hw2 : IntKind.i64.wrap m = m := IntWalk.i64_in _ (by omega)
      have hdd : X.P.underlying t = some (.slice e) := hd
      have hii : X.P.info? e = some i := hi
      have htl : ¬ (((decide (m < 0) || decide ((i.bytes : Int) * m > 2 ^ 48)) || decide (n < 0) || decide (n > m)) = true) := by
        simp only [Bool.or_eq_true, decide_eq_true_eq, not_or]
        have : (i.bytes : Int) * m = m * i.bytes := Int.mul_comm _ _
        have h48 : (2 : Int) ^ 48 = 281474976710656 := by decide
        refine ⟨⟨⟨by omega, by omega⟩, by omega⟩, by omega⟩
      refine ⟨rfl, done_new hr (cap := m.toNat) (es := List.replicate m.toNat z) (vs := List.replicate m.toNat zv) (val := .slice (some ⟨μ.w.heap.size, 0, none⟩) n.toNat m.toNat) hc5 (by simp) ?_ (VRels.replicate hzr _) (by rw [hsz1]; exact Nat.le_refl _) hsp (t := e) ?_ ?_⟩
      · simp only [List.all_eq_true, List.mem_replicate]
        rintro q ⟨_, rfl⟩; exact hc4
      · simp only [execOp, ho]
        refine run_v ?_
        simp only [Instr.makeSlice, Sem.run_bind, run_underlying hdd, Result.andThen_ok, hx, hy, asInt, asIntOf, Sem.run_pure, run_typeInfo μ.w hii, hw1, hw2]
        rw [if_neg htl]
        simp only [Sem.run_bind, run_askRoom, Result.andThen_ok, run_sizeT hn]
        by_cases hm0 : m.toNat * sz = 0
        · rw [if_pos hm0]
          simp only [Sem.run_pure, Result.andThen_ok, newRow, Sem.run_bind, run_newObj]
          have hr0 : Array.range 0 = #[] := rfl
          rw [hm0, hr0]
          simp
        · rw [if_neg hm0]
          simp only [Sem.run_bind, hz1, Result.andThen_ok, Sem.run_pure, newRow, run_newObj]
          simp
      · simp only [VRel, upd_same]
        exact ⟨_, _, rfl, by omega, Nat.le_refl _, fun _ => ⟨by simp, by simp⟩⟩
    · exact absurd hrun run_fail
  · exact absurd hrun run_fail

/-! ### stores -/
theorem frzCell_sound {c : V} {k : V → Act} {val : Value} {O : Nat → Obj} {p : V × St} (ho : Objs X ⟨μ.w, μ.φ, O⟩) (hv : VRel X ⟨μ.w, μ.φ, O⟩ c val) (hrun : (frzCell c k).run C ⟨T, O⟩ = some p) :
    ∃ c' O', (k c').run C ⟨T, O'⟩ = some p ∧ VRel X ⟨μ.w, μ.φ, O'⟩ c' val ∧ Le ⟨μ.w, μ.φ, O⟩ ⟨μ.w, μ.φ, O'⟩ ∧ Objs X ⟨μ.w, μ.φ, O'⟩ ∧ (c.isCell = true → c'.isCell = true) := by
  have same : (frzCell c k).run C ⟨T, O⟩ = (k c).run C ⟨T, O⟩ → _ := fun e => (⟨c, O, e ▸ hrun, hv, Le.refl _, ho, id⟩ : ∃ c' O', (k c').run C ⟨T, O'⟩ = some p ∧ VRel X ⟨μ.w, μ.φ, O'⟩ c' val ∧ Le ⟨μ.w, μ.φ, O⟩ ⟨μ.w, μ.φ, O'⟩ ∧ Objs X ⟨μ.w, μ.φ, O'⟩ ∧ (c.isCell = true → c'.isCell = true))
  cases c with
  | sl r g off len =>
    simp only [frzCell, Act.run] at hrun
    split at hrun
    · rename_i es hes
      split at hrun
      · rename_i hc
        obtain ⟨hc1, hc2, hc3, hc4⟩ := hc
        simp only [Act.run] at hrun
        obtain ⟨le, ho'⟩ := freeze_obj (μ := ⟨μ.w, μ.φ, O⟩) ho r
        refine ⟨_, _, hrun, ?_, le, ho', fun _ => rfl⟩
        have hwl : (window es off len).length = len := by simp [window]; omega
        obtain ⟨q1, q2, q3, q4⟩ := ho'.ok r es (by simp [upd_same, hes])
        simp only [upd_same] at q1 q2 q3 q4
        have hv' := VRel.mono le hv
        simp only [VRel, upd_same] at hv'
        obtain ⟨a0, cap, rfl, hle, _, haddr⟩ := hv'
        obtain ⟨k1, k2⟩ := haddr hc1
        simp only [VRel]
        refine ⟨hc4, ?_, a0, cap, ?_⟩
        · simp only [List.all_eq_true] at q3 ⊢
          exact fun x hx => (isBlank_lies (q3 x (List.mem_of_mem_drop (List.mem_of_mem_take hx)))).1
        · by_cases hcap : cap = 0
          · have : len = 0 := by omega
            subst this
            refine ⟨[], by rw [hwl], by rw [hwl]; omega, ?_, .inl ?_⟩
            · simp [window, VRels]
            · simp [window]
          · have hc0 : (μ.φ r).cap ≠ 0 := by omega
            rcases q4 with q4 | ⟨cc, TT, vs, p1, p2, p3, p4⟩
            · exact absurd q4 hc0
            · refine ⟨(vs.drop off).take len, by rw [hwl], by rw [hwl]; omega, VRels.take _ (VRels.drop _ p3), .inr ⟨_, _, k2.resolve_left hcap, ?_, (Array.getElem?_eq_some_iff.1 p1).1, (p4.drop off).take len⟩⟩
              rintro (⟨r', h1, h2, h3, h4⟩ | hban)
              · by_cases e : r' = r
                · subst e; simp [upd_same] at h2
                · have := ho'.inj r' r e h1 (by simp [upd_same, hes]) h3 hc0
                  exact this h4
              · exact ho'.nob r (by simp [upd_same, hes]) hc0 hban
      · exact absurd hrun run_fail
    · exact absurd hrun run_fail
  | own _ _ => exact absurd hrun run_fail
  | msl _ _ _ _ => exact absurd hrun run_fail
  | mptr _ _ _ _ => exact absurd hrun run_fail
  | any => exact absurd hrun run_fail
  | _ => exact same rfl

theorem frzCells_sound : ∀ {cs : List V} {k : List V → Act} {vals : List Value} {O : Nat → Obj} {p : V × St}, Objs X ⟨μ.w, μ.φ, O⟩ → VRels X ⟨μ.w, μ.φ, O⟩ cs vals → (frzCells cs k).run C ⟨T, O⟩ = some p →
    ∃ cs' O', (k cs').run C ⟨T, O'⟩ = some p ∧ VRels X ⟨μ.w, μ.φ, O'⟩ cs' vals ∧ Le ⟨μ.w, μ.φ, O⟩ ⟨μ.w, μ.φ, O'⟩ ∧ Objs X ⟨μ.w, μ.φ, O'⟩ ∧ (cs.all V.isCell = true → cs'.all V.isCell = true)
  | [], k, [], O, p, ho, _, hrun => ⟨[], O, hrun, by simp [VRels], Le.refl _, ho, id⟩
  | [], _, _ :: _, _, _, _, h, _ => by simp [VRels] at h
  | _ :: _, _, [], _, _, _, h, _ => by simp [VRels] at h
  | c :: cs, k, v :: vals, O, p, ho, h, hrun => by
    simp only [VRels] at h
    obtain ⟨c', O1, h1, h2, h3, h4, h5⟩ := frzCell_sound ho h.1 hrun
    obtain ⟨cs', O2, k1, k2, k3, k4, k5⟩ := frzCells_sound h4 (VRels.mono h3 h.2) h1
    refine ⟨c' :: cs', O2, k1, ?_, h3.trans k3, k4, ?_⟩
    · simp only [VRels]; exact ⟨VRel.mono k3 h2, k2⟩
    · intro hh
      simp only [List.all_cons, Bool.and_eq_true] at hh ⊢
      exact ⟨h5 hh.1, k5 hh.2⟩

theorem frz_sound {c : V} {k : V → Act} {val : Value} {O : Nat → Obj} {p : V × St} (ho : Objs X ⟨μ.w, μ.φ, O⟩) (hv : VRel X ⟨μ.w, μ.φ, O⟩ c val) (hrun : (frz c k).run C ⟨T, O⟩ = some p) :
    ∃ c' O', (k c').run C ⟨T, O'⟩ = some p ∧ VRel X ⟨μ.w, μ.φ, O'⟩ c' val ∧ Le ⟨μ.w, μ.φ, O⟩ ⟨μ.w, μ.φ, O'⟩ ∧ Objs X ⟨μ.w, μ.φ, O'⟩ := by
  unfold frz at hrun
  split at hrun
  · exact ⟨c, O, hrun, hv, Le.refl _, ho⟩
  · split at hrun
    · simp only [VRel] at hv
      obtain ⟨h0, vs, rfl, hvs⟩ := hv
      obtain ⟨cs', O', h1, h2, h3, h4, h5⟩ := frzCells_sound ho hvs hrun
      exact ⟨_, O', h1, by simp only [VRel]; exact ⟨h5 h0, vs, rfl, h2⟩, h3, h4⟩
    · obtain ⟨c', O', h1, h2, h3, h4, _⟩ := frzCell_sound ho hv hrun
      exact ⟨c', O', h1, h2, h3, h4⟩

theorem frzs_go_sound : ∀ {cs : List V} {k : List V → Act} {vals : List Value} {O : Nat → Obj} {p : V × St}, Objs X ⟨μ.w, μ.φ, O⟩ → VRels X ⟨μ.w, μ.φ, O⟩ cs vals → (frzs.go cs k).run C ⟨T, O⟩ = some p →
    ∃ cs' O', (k cs').run C ⟨T, O'⟩ = some p ∧ VRels X ⟨μ.w, μ.φ, O'⟩ cs' vals ∧ Le ⟨μ.w, μ.φ, O⟩ ⟨μ.w, μ.φ, O'⟩ ∧ Objs X ⟨μ.w, μ.φ, O'⟩
  | [], k, [], O, p, ho, _, hrun => ⟨[], O, hrun, by simp [VRels], Le.refl _, ho⟩
  | [], _, _ :: _, _, _, _, h, _ => by simp [VRels] at h
  | _ :: _, _, [], _, _, _, h, _ => by simp [VRels] at h
  | c :: cs, k, v :: vals, O, p, ho, h, hrun => by
    simp only [VRels] at h
    obtain ⟨c', O1, h1, h2, h3, h4⟩ := frz_sound ho h.1 hrun
    obtain ⟨cs', O2, k1, k2, k3, k4⟩ := frzs_go_sound h4 (VRels.mono h3 h.2) h1
    refine ⟨c' :: cs', O2, k1, ?_, h3.trans k3, k4⟩
    simp only [VRels]; exact ⟨VRel.mono k3 h2, k2⟩

theorem frzs_sound {cs : List V} {k : List V → Act} {vals : List Value} {O : Nat → Obj} {p : V × St} (ho : Objs X ⟨μ.w, μ.φ, O⟩) (hv : VRels X ⟨μ.w, μ.φ, O⟩ cs vals) (hrun : (frzs cs k).run C ⟨T, O⟩ = some p) :
    ∃ cs' O', (k cs').run C ⟨T, O'⟩ = some p ∧ VRels X ⟨μ.w, μ.φ, O'⟩ cs' vals ∧ Le ⟨μ.w, μ.φ, O⟩ ⟨μ.w, μ.φ, O'⟩ ∧ Objs X ⟨μ.w, μ.φ, O'⟩ := by
  unfold frzs at hrun
  split at hrun
  · exact ⟨cs, O, hrun, hv, Le.refl _, ho⟩
  · exact frzs_go_sound ho hv hrun

end
end Go.AM
