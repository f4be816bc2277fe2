/-
  Operations of the abstract machine against the model's: those that leave memory alone. Own work.
-/
import Derived.Test.YtnjbmkcbhnkggaaAmObj
import Derived.ChangeKeysEq
set_option linter.unusedSimpArgs false
namespace Go.AM
open Go Go.RowKit

structure Rel (X : Ctx) (T : Nat → V) (a : Go.Act) (μ : Mu) : Prop where
  tmps : ∀ t, VRel X μ (T t) (a.tmps.getD t undef)
  objs : Objs X μ

def Done (X : Ctx) (o : Oper) (a : Go.Act) (μ : Mu) (O' : Nat → Obj) (v : V) : Prop :=
  ∃ val w' φ', ((execOp a.eval o).run X.P μ.w = .ok (.value val) w' ∨ ((execOp a.eval o).run X.P μ.w = .ok .skip w' ∧ val = undef)) ∧
    VRel X ⟨w', φ', O'⟩ v val ∧ Le μ ⟨w', φ', O'⟩ ∧ Objs X ⟨w', φ', O'⟩

theorem done_pure {X : Ctx} {o : Oper} {a : Go.Act} {μ : Mu} {v : V} {val : Value} (ho : Objs X μ) (hrun : (execOp a.eval o).run X.P μ.w = .ok (.value val) μ.w)
    (hv : VRel X μ v val) : Done X o a μ μ.O v :=
  ⟨val, μ.w, μ.φ, .inl hrun, hv, Le.refl μ, ho⟩

theorem run_v {P : Program} {s : Sem Value} {w w' : World} {val : Value} (h : s.run P w = .ok val w') : (do pure (Next.value (← s)) : Sem Next).run P w = .ok (.value val) w' := by
  simp [Sem.run_bind, h]
theorem run_u {P : Program} {s : Sem Unit} {w w' : World} (h : s.run P w = .ok () w') : (do s; pure Next.skip : Sem Next).run P w = .ok .skip w' := by
  simp [Sem.run_bind, h]

/-! ## running the machine's own steps -/
theorem run_ev (C : Oracle) (x : AOpd) (k : V → Act) (σ : St) : (ev x k).run C σ = (k (evalOpd σ x)).run C σ := by cases x <;> rfl
theorem run_evs (C : Oracle) : ∀ (xs : List AOpd) (k : List V → Act) (σ : St), (evs xs k).run C σ = (k (xs.map (evalOpd σ))).run C σ
  | [], _, _ => rfl
  | x :: xs, k, σ => by simp only [evs, run_ev, run_evs C xs, List.map_cons]
theorem run_evo (C : Oracle) (x : Option AOpd) (k : Option V → Act) (σ : St) : (evo x k).run C σ = (k (x.map (evalOpd σ))).run C σ := by
  cases x with
  | none => rfl
  | some x => exact run_ev C x _ σ
theorem run_give {C : Oracle} {r : Option V} {σ σ' : St} {v : V} (h : (give r).run C σ = some (v, σ')) : r = some v ∧ σ' = σ := by
  cases r with
  | none => simp [give, Act.run] at h
  | some u => simp only [give, Act.run, Option.some.injEq, Prod.mk.injEq] at h; exact ⟨by rw [h.1], h.2.symm⟩
theorem run_done {C : Oracle} {u v : V} {σ σ' : St} (h : (Act.done u).run C σ = some (v, σ')) : u = v ∧ σ' = σ := by
  simp only [Act.run, Option.some.injEq, Prod.mk.injEq] at h; exact ⟨h.1, h.2.symm⟩
theorem run_fail {C : Oracle} {p : V × St} {σ : St} : (Act.fail).run C σ ≠ some p := by simp [Act.run]

/-! ## operands, constants -/
theorem constCell_rel {X : Ctx} {μ : Mu} {v : Value} {c : V} (h : constCell v = some c) : VRel X μ c v ∧ c.isCell = true := by
  unfold constCell at h
  split at h <;> first
    | (injection h with h; subst h; simp [VRel, V.isCell])
    | simp at h
theorem constCells_rel {X : Ctx} {μ : Mu} : ∀ {vs : List Value} {cs : List V}, constCells vs = some cs → VRels X μ cs vs ∧ cs.all V.isCell = true
  | [], cs, h => by simp [constCells] at h; subst h; simp [VRels]
  | v :: vs, cs, h => by
    simp only [constCells] at h
    split at h
    · rename_i c cs' h1 h2
      injection h with h; subst h
      obtain ⟨a1, a2⟩ := constCell_rel (X := X) (μ := μ) h1
      obtain ⟨b1, b2⟩ := constCells_rel (X := X) (μ := μ) h2
      simp [VRels, a1, a2, b1, b2]
    · simp at h
theorem constV_rel {X : Ctx} {μ : Mu} {v : Value} {c : V} (h : constV v = some c) : VRel X μ c v ∧ c.lies = true := by
  unfold constV at h
  split at h
  · rename_i cs
    simp only [Option.map_eq_some_iff] at h
    obtain ⟨l, h1, rfl⟩ := h
    obtain ⟨a1, a2⟩ := constCells_rel (X := X) (μ := μ) h1
    simp [VRel, V.lies, V.isAgg, a1, a2]
  · obtain ⟨a1, a2⟩ := constCell_rel (X := X) (μ := μ) h
    exact ⟨a1, by simp [V.lies, a2]⟩

theorem trO_rel {X : Ctx} {μ : Mu} {T : Nat → V} {a : Go.Act} {x : Operand} {y : AOpd} (hr : Rel X T a μ) (h : trO X x = some y) (O : Nat → Obj) : VRel X μ (evalOpd ⟨T, O⟩ y) (a.eval x) := by
  cases x with
  | tmp t => simp [trO] at h; subst h; exact hr.tmps t
  | const v =>
    simp only [trO, Option.map_eq_some_iff] at h
    obtain ⟨c, h1, rfl⟩ := h
    exact (constV_rel h1).1
  | global g => simp [trO] at h
  | func f =>
    simp only [trO, Option.map_eq_some_iff] at h
    obtain ⟨n, h1, rfl⟩ := h
    simp only [evalOpd, Go.Act.eval, VRel]
    exact ⟨f, #[], rfl, h1, by simp [VRels]⟩

theorem trOs_rel {X : Ctx} {μ : Mu} {T : Nat → V} {a : Go.Act} (hr : Rel X T a μ) (O : Nat → Obj) : ∀ {xs : List Operand} {ys : List AOpd}, trOs X xs = some ys →
    VRels X μ (ys.map (evalOpd ⟨T, O⟩)) (xs.map a.eval)
  | [], ys, h => by simp [trOs] at h; subst h; simp [VRels]
  | x :: xs, ys, h => by
    simp only [trOs] at h
    split at h
    · rename_i b bs h1 h2
      injection h with h; subst h
      simp only [List.map_cons, VRels]
      exact ⟨trO_rel hr h1 O, trOs_rel hr O h2⟩
    · simp at h

/-! ## parts of values -/
theorem part_agg_rel {X : Ctx} {μ : Mu} {e u : V} {x : Value} {off sz : Nat} (h : VRel X μ e x) (hp : part true off sz e = some u) :
    ∃ cs, x = .agg cs ∧ off + sz ≤ cs.size ∧ VRel X μ u (.agg (cs.extract off (off + sz))) := by
  cases e <;> simp [part] at hp
  rename_i cs
  obtain ⟨h1, h2⟩ := hp
  subst h2
  simp only [VRel] at h
  obtain ⟨h0, vs, rfl, hv⟩ := h
  have hl := hv.length
  simp at hl
  refine ⟨vs, rfl, by omega, ?_⟩
  simp only [VRel]
  refine ⟨?_, _, rfl, ?_⟩
  · simp only [List.all_eq_true] at h0 ⊢
    intro c hc
    exact h0 c (List.mem_of_mem_drop (List.mem_of_mem_take hc))
  · have := VRels.take sz (VRels.drop off hv)
    simpa [Array.toList_extract, List.extract_eq_take_drop] using this

theorem part_cell_rel {X : Ctx} {μ : Mu} {e u : V} {x : Value} {off sz : Nat} (h : VRel X μ e x) (hp : part false off sz e = some u) :
    e.lies = true ∧ ∃ c, x.cells[off]? = some c ∧ VRel X μ u c := by
  by_cases ha : ∃ cs, e = .agg cs
  · obtain ⟨cs, rfl⟩ := ha
    simp only [part] at hp
    simp only [VRel] at h
    obtain ⟨h0, vs, rfl, hv⟩ := h
    obtain ⟨c, h1, h2⟩ := hv.get hp
    exact ⟨by simp [V.lies, V.isAgg], c, by simpa [Value.cells] using h1, h2⟩
  · have : part false off sz e = if e.isCell ∧ off = 0 then some e else none := by
      cases e <;> first | rfl | exact absurd ⟨_, rfl⟩ ha
    rw [this] at hp
    split at hp
    · rename_i hc
      injection hp with hp; subst hp
      refine ⟨by simp [V.lies, hc.1], x, ?_, h⟩
      rw [(h.oneCell hc.1).2, hc.2]; simp
    · simp at hp

/-! ## the operations -/
section
variable {X : Ctx} {h : Hints} {dst : Nat} {E : Env} {C : Oracle} {o : Oper} {a : Go.Act} {T : Nat → V} {μ : Mu} {v : V} {σ' : St}

theorem op_move {x : Operand} {y : AOpd} (hr : Rel X T a μ) (ho : o.op = .move x ∨ o.op = .assign x) (ht : trO X x = some y) (hrun : (opAct E (.move y)).run C ⟨T, μ.O⟩ = some (v, σ')) :
    σ'.T = T ∧ Done X o a μ σ'.O v := by
  simp only [opAct, run_ev] at hrun
  obtain ⟨rfl, rfl⟩ := run_done hrun
  refine ⟨rfl, done_pure hr.objs ?_ (trO_rel hr ht _)⟩
  rcases ho with ho | ho <;> simp [execOp, ho]

theorem op_pick {c p q : Operand} {c' p' q' : AOpd} (hr : Rel X T a μ) (ho : o.op = .pick c p q) (h1 : trO X c = some c') (h2 : trO X p = some p') (h3 : trO X q = some q')
    (hrun : (opAct E (.pick c' p' q')).run C ⟨T, μ.O⟩ = some (v, σ')) : σ'.T = T ∧ Done X o a μ σ'.O v := by
  simp only [opAct, run_ev] at hrun
  have hc := trO_rel hr h1 μ.O
  split at hrun
  · rename_i e
    rw [e] at hc
    simp only [VRel] at hc
    rw [run_ev] at hrun
    obtain ⟨rfl, rfl⟩ := run_done hrun
    refine ⟨rfl, done_pure hr.objs ?_ (trO_rel hr h2 _)⟩
    simp [execOp, ho, hc, asBool, Sem.run_bind]
  · rename_i e
    rw [e] at hc
    simp only [VRel] at hc
    rw [run_ev] at hrun
    obtain ⟨rfl, rfl⟩ := run_done hrun
    refine ⟨rfl, done_pure hr.objs ?_ (trO_rel hr h3 _)⟩
    simp [execOp, ho, hc, asBool, Sem.run_bind]
  · exact absurd hrun run_fail

theorem op_nilCheck {x : Operand} {y : AOpd} (hr : Rel X T a μ) (ho : o.op = .nilCheck x) (ht : trO X x = some y) (hrun : (opAct E (.nilCheck y)).run C ⟨T, μ.O⟩ = some (v, σ')) :
    σ'.T = T ∧ Done X o a μ σ'.O v := by
  simp only [opAct, run_ev] at hrun
  have hx := trO_rel hr ht μ.O
  split at hrun
  · rename_i e
    obtain ⟨rfl, rfl⟩ := run_done hrun
    refine ⟨rfl, done_pure hr.objs ?_ (e ▸ hx)⟩
    rw [e] at hx
    simp only [VRel] at hx
    obtain ⟨p, hp, _⟩ := hx
    simp [execOp, ho, hp]
  · rename_i e
    obtain ⟨rfl, rfl⟩ := run_done hrun
    refine ⟨rfl, done_pure hr.objs ?_ (e ▸ hx)⟩
    rw [e] at hx
    simp only [VRel] at hx
    obtain ⟨_, _, b, o', sz, q, hp, _⟩ := hx
    simp [execOp, ho, hp]
  · rename_i e
    obtain ⟨rfl, rfl⟩ := run_done hrun
    refine ⟨rfl, done_pure hr.objs ?_ (e ▸ hx)⟩
    rw [e] at hx
    simp only [VRel] at hx
    obtain ⟨F, cv, hp, _⟩ := hx
    simp [execOp, ho, hp]
  · exact absurd hrun run_fail

theorem op_fieldAddr {s : TypeId} {x : Operand} {i : Nat} {y : AOpd} {fs : Array Field} {f : Field} {n : Nat} (hr : Rel X T a μ) (ho : o.op = .fieldAddr s x i) (ht : trO X x = some y)
    (hd : descT X s = some (.struct fs)) (hf : fs[i]? = some f) (hn : sizeT X f.type = some (n + 1)) (hrun : (opAct E (.fieldAddr f.offset y)).run C ⟨T, μ.O⟩ = some (v, σ')) :
    σ'.T = T ∧ Done X o a μ σ'.O v := by
  simp only [opAct, run_ev] at hrun
  have hx := trO_rel hr ht μ.O
  have hi : ∃ inf, X.P.info? f.type = some inf ∧ inf.size = n + 1 := by
    simpa [sizeT, info] using hn
  obtain ⟨inf, hi1, hi2⟩ := hi
  have hsz : X.P.cellsOf f.type = n + 1 := by simp [Program.cellsOf, hi1, hi2]
  have key : ∀ p : Addr, a.eval x = .pointer (some p) → (execOp a.eval o).run X.P μ.w = .ok (.value (.pointer (some (p.add f.offset)))) μ.w := fun p hp => by
    simp only [execOp, ho]
    refine run_v ?_
    simp [Instr.fieldAt, Sem.run_bind, run_underlying hd, hf, Instr.sureAddr, hp, fieldPlace, run_sizeOf (w := μ.w) hi1, hsz]
  have hadd : ∀ (b q : Nat), (⟨b, q, none⟩ : Addr).add f.offset = ⟨b, q + f.offset, none⟩ := fun b q => by unfold Addr.add; split <;> simp_all
  split at hrun
  · rename_i e
    obtain ⟨rfl, rfl⟩ := run_done hrun
    rw [e] at hx
    simp only [VRel] at hx
    obtain ⟨p, hp, h1, h2⟩ := hx
    refine ⟨rfl, done_pure hr.objs (key p hp) ?_⟩
    simp only [VRel]
    refine ⟨_, rfl, h1, fun eg => ?_⟩
    rw [h2 eg, hadd]; simp [Nat.add_assoc]
  · rename_i e
    obtain ⟨rfl, rfl⟩ := run_done hrun
    rw [e] at hx
    simp only [VRel] at hx
    obtain ⟨h0, h0', b, o', sz, q, hp, h1, h2, h3, h4⟩ := hx
    refine ⟨rfl, done_pure hr.objs (key _ hp) ?_⟩
    simp only [VRel]
    exact ⟨h0, h0', b, o', sz, q, by rw [hadd]; simp [Nat.add_assoc], h1, h2, h3, h4⟩
  · exact absurd hrun run_fail

theorem op_extract {x : Operand} {i : Nat} {y : AOpd} (hr : Rel X T a μ) (ho : o.op = .extract x i) (ht : trO X x = some y) (hrun : (opAct E (.extract y i)).run C ⟨T, μ.O⟩ = some (v, σ')) :
    σ'.T = T ∧ Done X o a μ σ'.O v := by
  simp only [opAct, run_ev] at hrun
  have hx := trO_rel hr ht μ.O
  split at hrun
  · rename_i vs e
    obtain ⟨h1, rfl⟩ := run_give hrun
    rw [e] at hx
    simp only [VRel] at hx
    obtain ⟨us, hu, hv⟩ := hx
    obtain ⟨c, h2, h3⟩ := hv.get h1
    refine ⟨rfl, done_pure hr.objs ?_ h3⟩
    simp only [execOp, ho]
    refine run_v ?_
    have h2' : us[i]? = some c := by simpa using h2
    simp [Instr.extract, hu, h2']
  · exact absurd hrun run_fail

theorem op_makeFunc {f : FuncId} {first caps : Array Operand} {n : Nat} {cs : List AOpd} (hr : Rel X T a μ) (ho : o.op = .makeFunc (.func f) first caps) (hfi : first.isEmpty = true)
    (hn : X.fnum f = some n) (ht : trOs X caps.toList = some cs) (hrun : (opAct E (.mkFunc n cs)).run C ⟨T, μ.O⟩ = some (v, σ')) : σ'.T = T ∧ Done X o a μ σ'.O v := by
  simp only [opAct, run_evs] at hrun
  obtain ⟨rfl, rfl⟩ := run_done hrun
  have hx := trOs_rel hr μ.O ht
  obtain rfl : first = #[] := by simpa using hfi
  refine ⟨rfl, done_pure (val := .func (.func f) #[] (caps.map a.eval)) hr.objs ?_ ?_⟩
  · simp [execOp, ho, Instr.makeFunc, Sem.run_bind]
  · simp only [VRel]
    exact ⟨f, _, rfl, hn, by simpa using hx⟩

theorem op_makeInterface {t : TypeId} {x : Operand} {n : Nat} {y : AOpd} (hr : Rel X T a μ) (ho : o.op = .makeInterface t x) (hn : X.tnum t = some n) (ht : trO X x = some y)
    (hd : ∃ d, descT X t = some d ∧ ∀ ms, d ≠ .interface ms) (hrun : (opAct E (.mkIface n y)).run C ⟨T, μ.O⟩ = some (v, σ')) : σ'.T = T ∧ Done X o a μ σ'.O v := by
  simp only [opAct, run_ev] at hrun
  obtain ⟨rfl, rfl⟩ := run_done hrun
  have hx := trO_rel hr ht μ.O
  obtain ⟨d, hd1, hd2⟩ := hd
  refine ⟨rfl, done_pure (val := .iface t (a.eval x)) hr.objs ?_ ?_⟩
  · simp only [execOp, ho]
    refine run_v ?_
    simp only [Instr.makeInterface, Sem.run_bind, run_underlying hd1, Result.andThen_ok]
    cases d <;> first | rfl | exact absurd rfl (hd2 _)
  · simp only [VRel]
    exact ⟨t, _, rfl, hn, hx⟩

theorem op_field {t : TypeId} {x : Operand} {i : Nat} {y : AOpd} {fs : Array Field} {f : Field} {g : Bool} {sz : Nat} (hr : Rel X T a μ) (ho : o.op = .field t x i) (ht : trO X x = some y)
    (hd : descT X t = some (.struct fs)) (hf : fs[i]? = some f) (hg : aggT X f.type = some g) (hn : sizeT X f.type = some sz)
    (hrun : (opAct E (.field g f.offset sz y)).run C ⟨T, μ.O⟩ = some (v, σ')) : σ'.T = T ∧ Done X o a μ σ'.O v := by
  simp only [opAct, run_ev] at hrun
  split at hrun
  case isFalse => exact absurd hrun run_fail
  rename_i hagg
  obtain ⟨hp, rfl⟩ := run_give hrun
  have hx := trO_rel hr ht μ.O
  obtain ⟨inf, hi1, hi2⟩ : ∃ inf, X.P.info? f.type = some inf ∧ inf.size = sz := by simpa [sizeT, info] using hn
  have hsz : X.P.cellsOf f.type = sz := by simp [Program.cellsOf, hi1, hi2]
  obtain ⟨d, hdd⟩ : ∃ d, X.P.underlying f.type = some d := by
    simp only [aggT, descT, Option.map_eq_some_iff] at hg
    obtain ⟨d, h1, _⟩ := hg; exact ⟨d, h1⟩
  have hisagg : (isAgg f.type).run X.P μ.w = .ok g μ.w := by
    simp only [aggT, descT, hdd, Option.map_some, Option.some.injEq] at hg
    simp only [isAgg, Sem.run_bind, run_underlying hdd, Result.andThen_ok]
    subst hg
    cases d <;> rfl
  cases g with
  | true =>
    obtain ⟨cs, hc, hle, hv⟩ := part_agg_rel hx hp
    refine ⟨rfl, done_pure hr.objs ?_ hv⟩
    simp only [execOp, ho]
    refine run_v ?_
    simp [Instr.field, Sem.run_bind, run_underlying hd, hf, part, hisagg, hc, asAgg, run_sizeOf (w := μ.w) hi1, hsz, Go.part]
  | false =>
    obtain ⟨_, c, hc, hv⟩ := part_cell_rel hx hp
    cases hy : evalOpd ⟨T, μ.O⟩ y <;> rw [hy] at hagg <;> simp [V.isAgg] at hagg
    rw [hy] at hx
    simp only [VRel] at hx
    obtain ⟨_, cs, hcs, _⟩ := hx
    rw [hcs] at hc
    refine ⟨rfl, done_pure hr.objs ?_ hv⟩
    simp only [execOp, ho]
    refine run_v ?_
    have hc' : cs[f.offset]? = some c := by simpa [Value.cells] using hc
    simp [Instr.field, Sem.run_bind, run_underlying hd, hf, hisagg, hcs, asAgg, Go.part, hc']

end
end Go.AM
