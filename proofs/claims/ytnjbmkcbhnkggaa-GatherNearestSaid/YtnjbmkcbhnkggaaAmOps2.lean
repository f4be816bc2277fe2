/-
  Operations of the abstract machine against the model's: arithmetic, comparisons, lengths, indexes, parts. Own work.
-/
import Derived.Test.YtnjbmkcbhnkggaaAmEq
set_option linter.unusedSimpArgs false
namespace Go.AM
open Go Go.RowKit

theorem trOo_rel {X : Ctx} {μ : Mu} {T : Nat → V} {a : Go.Act} {x : Option Operand} {y : Option AOpd} (hr : Rel X T a μ) (h : trOo X x = some y) (O : Nat → Obj) :
    (x = none ∧ y = none) ∨ ∃ x' y', x = some x' ∧ y = some y' ∧ VRel X μ (evalOpd ⟨T, O⟩ y') (a.eval x') := by
  cases x with
  | none => simp [trOo] at h; exact .inl ⟨rfl, h.symm⟩
  | some x =>
    simp only [trOo, Option.map_eq_some_iff] at h
    obtain ⟨c, h1, rfl⟩ := h
    exact .inr ⟨x, c, rfl, rfl, trO_rel hr h1 O⟩

section
variable {X : Ctx} {E : Env} {C : Oracle} {o : Oper} {a : Go.Act} {T : Nat → V} {μ : Mu} {v : V} {σ' : St}

theorem binV_rel {op : BinOp} {t : TypeId} {x y : V} {xv yv : Value} {u : V} (hx : VRel X μ x xv) (hy : VRel X μ y yv) (h : binV op x y = some u) (p q : Operand) :
    ∃ val, (do eqGuard op t p q xv yv; Go.binOp op t xv yv : Sem Value).run X.P μ.w = .ok val μ.w ∧ VRel X μ u val := by
  unfold binV at h
  split at h
  · rename_i k n k' n'
    simp only [VRel] at hx hy
    subst hx; subst hy
    have hg : (eqGuard op t p q (.int k n) (.int k' n')).run X.P μ.w = .ok () μ.w := by
      cases op <;> simp [eqGuard]
    simp only [Sem.run_bind, hg, Result.andThen_ok]
    cases op with
    | shl =>
      simp only at h
      split at h <;> simp at h
      subst h
      rename_i hb
      exact ⟨.int k (k.wrap (n * 2 ^ min n'.toNat k.bits)), by simp [Go.binOp, Op.shift, hb], by simp [VRel]⟩
    | shr =>
      simp only at h
      split at h <;> simp at h
      subst h
      rename_i hb
      exact ⟨.int k (n.fdiv (2 ^ min n'.toNat k.bits)), by simp [Go.binOp, Op.shift, hb], by simp [VRel]⟩
    | quo =>
      simp only at h
      split at h
      · rename_i hk; subst hk
        split at h <;> simp at h
        subst h
        rename_i hb
        exact ⟨.int k (k.wrap (n.tdiv n')), by simp [Go.binOp, Op.intDiv, hb], by simp [VRel]⟩
      · simp at h
    | rem =>
      simp only at h
      split at h
      · rename_i hk; subst hk
        split at h <;> simp at h
        subst h
        rename_i hb
        exact ⟨.int k (n.tmod n'), by simp [Go.binOp, Op.intDiv, hb], by simp [VRel]⟩
      · simp at h
    | _ =>
      simp only at h
      split at h
      · rename_i hk; subst hk
        simp only [bitsInt, cmpInt, Option.some.injEq] at h
        subst h
        exact ⟨_, by simp [Go.binOp, Op.intArith, Op.intBits, Op.intCmp]; rfl, by simp [VRel]⟩
      · simp at h
  · rename_i s s'
    simp only [VRel] at hx hy
    obtain ⟨bs, rfl, rfl⟩ := hx
    obtain ⟨cs, rfl, rfl⟩ := hy
    have hg : (eqGuard op t p q (.string bs) (.string cs)).run X.P μ.w = .ok () μ.w := by
      cases op <;> simp [eqGuard]
    simp only [Sem.run_bind, hg, Result.andThen_ok]
    have he : (bs.toList == cs.toList) = decide (bs.data.toList = cs.data.toList) := by
      rw [ByteArray.toList_eq, ByteArray.toList_eq, Bool.eq_iff_iff]; simp
    cases op with
    | add =>
      simp only at h
      split at h <;> simp at h
      subst h
      rename_i hl
      have hl' : ¬ ((bs.size + cs.size : Nat) : Int) > IntKind.i64.max := by
        have hm : IntKind.i64.max = 9223372036854775807 := by decide
        have h1 : bs.data.toList.length = bs.size := by rw [Array.length_toList]; rfl
        have h2 : cs.data.toList.length = cs.size := by rw [Array.length_toList]; rfl
        rw [hm]; rw [h1, h2] at hl; omega
      refine ⟨.string (bs ++ cs), by simp only [Go.binOp, Op.stringOp]; rw [if_neg hl']; rfl, ?_⟩
      simp [VRel, ByteArray.data_append]
    | _ =>
      simp only [Option.some.injEq, reduceCtorEq] at h
      try (subst h
           refine ⟨_, by simp only [Go.binOp, Op.stringOp]; rfl, ?_⟩
           simp only [VRel, he] <;> simp only [ByteArray.toList_eq])
  · simp at h

theorem op_bin {op : BinOp} {t t2 : TypeId} {x y : Operand} {x' y' : AOpd} (hr : Rel X T a μ) (ho : o.op = .binOp op t x y t2) (h1 : trO X x = some x') (h2 : trO X y = some y')
    (hrun : (opAct E (.bin op x' y')).run C ⟨T, μ.O⟩ = some (v, σ')) : σ'.T = T ∧ Done X o a μ σ'.O v := by
  simp only [opAct, run_ev] at hrun
  obtain ⟨hb, rfl⟩ := run_give hrun
  obtain ⟨val, hv, hrel⟩ := binV_rel (t := t) (trO_rel hr h1 μ.O) (trO_rel hr h2 μ.O) hb x y
  refine ⟨rfl, done_pure hr.objs ?_ hrel⟩
  simp only [execOp, ho]
  exact run_v hv

theorem op_eqB {op : BinOp} {t t2 : TypeId} {x y : Operand} {x' y' : AOpd} (hr : Rel X T a μ) (ho : o.op = .binOp op t x y t2) (hop : op = .eql ∨ op = .neq) (hd : descT X t = some .bool)
    (h1 : trO X x = some x') (h2 : trO X y = some y') {neg : Bool} (hn : neg = isNeq op)
    (hrun : (opAct E (.eqB neg x' y')).run C ⟨T, μ.O⟩ = some (v, σ')) : σ'.T = T ∧ Done X o a μ σ'.O v := by
  simp only [opAct, run_ev] at hrun
  have hx := trO_rel hr h1 μ.O
  have hy := trO_rel hr h2 μ.O
  split at hrun
  · rename_i p q e1 e2
    obtain ⟨rfl, rfl⟩ := run_done hrun
    rw [e1] at hx; rw [e2] at hy
    simp only [VRel] at hx hy
    refine ⟨rfl, done_pure (val := .bool ((p == q) != neg)) hr.objs ?_ (by simp [VRel])⟩
    simp only [execOp, ho]
    refine run_v ?_
    have heq : (Op.equal t (.bool p) (.bool q)).run X.P μ.w = .ok (p == q) μ.w := run_equalIn_bool' μ.w 9999 t p q hd
    rcases hop with rfl | rfl
    · subst hn
      simp [eqGuard, hx, hy, Go.binOp, Sem.run_bind, heq, isNeq]
    · subst hn
      simp [eqGuard, hx, hy, Go.binOp, Sem.run_bind, heq, isNeq]
  · exact absurd hrun run_fail

theorem op_eqA {op : BinOp} {t t2 : TypeId} {x y : Operand} {x' y' : AOpd} {ks : List Nat} (hr : Rel X T a μ) (ho : o.op = .binOp op t x y t2) (hop : op = .eql ∨ op = .neq)
    (hg : X.P.eqGuardType X.P.depth t = false) (hk : kindsT X 100 t = some ks) (hs : ∃ fs, descT X t = some (.struct fs))
    (h1 : trO X x = some x') (h2 : trO X y = some y') {neg : Bool} (hn : neg = isNeq op)
    (hrun : (opAct E (.eqA neg ks x' y')).run C ⟨T, μ.O⟩ = some (v, σ')) : σ'.T = T ∧ Done X o a μ σ'.O v := by
  simp only [opAct, run_ev] at hrun
  have hx := trO_rel hr h1 μ.O
  have hy := trO_rel hr h2 μ.O
  split at hrun
  · rename_i p q e1 e2
    split at hrun
    · rename_i b hb
      obtain ⟨rfl, rfl⟩ := run_done hrun
      rw [e1] at hx; rw [e2] at hy
      simp only [VRel] at hx hy
      obtain ⟨_, xs, hxs, hvx⟩ := hx
      obtain ⟨_, ys, hys, hvy⟩ := hy
      refine ⟨rfl, done_pure (val := .bool (b != neg)) hr.objs ?_ (by simp [VRel])⟩
      simp only [execOp, ho]
      refine run_v ?_
      obtain ⟨_, hh⟩ := (eq_rel (X := X) (μ := μ) μ.w 100).1 t ks p q _ _ b 10000 hk (by omega) hvx hvy hb
      obtain ⟨fs, hfs⟩ := hs
      have hagg : aggT X t = some true := by simp [aggT, hfs]
      rcases hh with ⟨_, hh⟩ | ⟨hh, _⟩
      · have heq : (Op.equal t (.agg xs) (.agg ys)).run X.P μ.w = .ok b μ.w := by simpa [Op.equal, Op.maxDepth] using hh
        have hgd : (eqGuard op t x y (.agg xs) (.agg ys)).run X.P μ.w = .ok () μ.w := run_eqGuard_agg μ.w op t x y xs ys hg
        rw [hxs, hys]
        rcases hop with rfl | rfl
        · subst hn
          simp only [Sem.run_bind, hgd, Result.andThen_ok, Go.binOp, heq, isNeq]; simp
        · subst hn
          simp only [Sem.run_bind, hgd, Result.andThen_ok, Go.binOp, heq, isNeq]; simp
      · rw [hagg] at hh; cases hh
    · exact absurd hrun run_fail
  · exact absurd hrun run_fail

theorem op_un {op : UnOp} {t : TypeId} {x : Operand} {x' : AOpd} (hr : Rel X T a μ) (ho : o.op = .unOp op t x) (h1 : trO X x = some x')
    (hrun : (opAct E (.un op x')).run C ⟨T, μ.O⟩ = some (v, σ')) : σ'.T = T ∧ Done X o a μ σ'.O v := by
  simp only [opAct, run_ev] at hrun
  obtain ⟨hb, rfl⟩ := run_give hrun
  have hx := trO_rel hr h1 μ.O
  have : ∃ val, (Op.unary op (a.eval x)).run X.P μ.w = .ok val μ.w ∧ VRel X μ v val := by
    unfold unV at hb
    split at hb
    · rename_i k n e
      simp at hb; subst hb
      rw [e] at hx; simp only [VRel] at hx
      exact ⟨.int k (k.wrap (0 - n)), by simp [hx, Op.unary, Op.intArith], by simp [VRel]⟩
    · rename_i b e
      simp at hb; subst hb
      rw [e] at hx; simp only [VRel] at hx
      exact ⟨.bool (!b), by simp [hx, Op.unary], by simp [VRel]⟩
    · rename_i k n e
      simp only [bitsInt, Option.some.injEq] at hb; subst hb
      rw [e] at hx; simp only [VRel] at hx
      exact ⟨_, by simp [hx, Op.unary, Op.intBits]; rfl, by simp [VRel]⟩
    · simp at hb
  obtain ⟨val, h2, h3⟩ := this
  refine ⟨rfl, done_pure hr.objs ?_ h3⟩
  simp only [execOp, ho]
  exact run_v h2

theorem op_convInt {s d : TypeId} {x : Operand} {x' : AOpd} {k k0 : IntKind} (hr : Rel X T a μ) (ho : o.op = .convert s d x) (hs : descT X s = some (.int k0)) (hd : descT X d = some (.int k))
    (h1 : trO X x = some x') (hrun : (opAct E (.convInt k x')).run C ⟨T, μ.O⟩ = some (v, σ')) : σ'.T = T ∧ Done X o a μ σ'.O v := by
  simp only [opAct, run_ev] at hrun
  have hx := trO_rel hr h1 μ.O
  split at hrun
  · rename_i k1 n1 e
    obtain ⟨rfl, rfl⟩ := run_done hrun
    rw [e] at hx; simp only [VRel] at hx
    refine ⟨rfl, done_pure (val := .int k (k.wrap n1)) hr.objs ?_ (by simp [VRel])⟩
    simp only [execOp, ho]
    refine run_v ?_
    simp [convert, Sem.run_bind, run_underlying hs, run_underlying hd, hx, Conv.intToInt]
  · exact absurd hrun run_fail

theorem op_convIF {s d : TypeId} {x : Operand} {x' : AOpd} {k0 : IntKind} (hr : Rel X T a μ) (ho : o.op = .convert s d x) (hs : descT X s = some (.int k0)) (hd : descT X d = some (.float .f64))
    (h1 : trO X x = some x') (hrun : (opAct E (.convIF x')).run C ⟨T, μ.O⟩ = some (v, σ')) : σ'.T = T ∧ Done X o a μ σ'.O v := by
  simp only [opAct, run_ev] at hrun
  have hx := trO_rel hr h1 μ.O
  split at hrun
  · rename_i k1 n1 e
    obtain ⟨rfl, rfl⟩ := run_done hrun
    rw [e] at hx; simp only [VRel] at hx
    refine ⟨rfl, done_pure (val := .float .f64 (FloatKind.f64.nearest n1)) hr.objs ?_ (by simp [VRel])⟩
    simp only [execOp, ho]
    refine run_v ?_
    simp [convert, Sem.run_bind, run_underlying hs, run_underlying hd, hx, Conv.intToFloat]
  · exact absurd hrun run_fail

theorem op_convFI {s d : TypeId} {x : Operand} {x' : AOpd} {k : IntKind} (hr : Rel X T a μ) (ho : o.op = .convert s d x) (hs : descT X s = some (.float .f64)) (hd : descT X d = some (.int k))
    (h1 : trO X x = some x') (hrun : (opAct E (.convFI k x')).run C ⟨T, μ.O⟩ = some (v, σ')) : σ'.T = T ∧ Done X o a μ σ'.O v := by
  simp only [opAct, run_ev] at hrun
  have hx := trO_rel hr h1 μ.O
  split at hrun
  · rename_i b e
    split at hrun
    · rename_i n hn
      split at hrun
      · rename_i hle
        obtain ⟨rfl, rfl⟩ := run_done hrun
        rw [e] at hx; simp only [VRel] at hx
        refine ⟨rfl, done_pure (val := .int k n) hr.objs ?_ (by simp [VRel])⟩
        simp only [execOp, ho]
        refine run_v ?_
        simp [convert, Sem.run_bind, run_underlying hs, run_underlying hd, hx, Conv.floatToInt, hn, hle]
      · exact absurd hrun run_fail
    · exact absurd hrun run_fail
  · exact absurd hrun run_fail

theorem op_convStr {s d : TypeId} {x : Operand} {x' : AOpd} (hr : Rel X T a μ) (ho : o.op = .convert s d x) (hs : descT X s = some .string) (hd : descT X d = some .string)
    (h1 : trO X x = some x') (hrun : (opAct E (.convStr x')).run C ⟨T, μ.O⟩ = some (v, σ')) : σ'.T = T ∧ Done X o a μ σ'.O v := by
  simp only [opAct, run_ev] at hrun
  have hx := trO_rel hr h1 μ.O
  split at hrun
  · rename_i b e
    obtain ⟨rfl, rfl⟩ := run_done hrun
    rw [e] at hx; simp only [VRel] at hx
    obtain ⟨bs, hbs, rfl⟩ := hx
    refine ⟨rfl, done_pure (val := .string bs) hr.objs ?_ (by simp [VRel])⟩
    simp only [execOp, ho]
    refine run_v ?_
    simp [convert, Sem.run_bind, run_underlying hs, run_underlying hd, hbs]
  · exact absurd hrun run_fail

/-! ### lengths -/
theorem run_builtin {c : Call} {b : Builtin} {val : Value} {w w' : World} (ho : o.op = .call c) (hc : c.callee = .builtin b)
    (h : (builtin b c.argTypes o.type (c.args.map fun | .const _ => true | _ => false) (c.args.map a.eval)).run X.P w = .ok (.value val) w') :
    (execOp a.eval o).run X.P w = .ok (.value val) w' := by
  simp only [execOp, ho, resolve, hc, Sem.run_bind, Sem.run_pure, Result.andThen_ok, invoke]
  exact h

theorem op_len {c : Call} {x : Operand} {t e : TypeId} {x' : AOpd} (hr : Rel X T a μ) (ho : o.op = .call c) (hc : c.callee = .builtin .len) (ha : c.args = #[x]) (ht : c.argTypes = #[t])
    (hd : descT X t = some (.slice e)) (h1 : trO X x = some x') (hrun : (opAct E (.len x')).run C ⟨T, μ.O⟩ = some (v, σ')) :
    σ'.T = T ∧ Done X o a μ σ'.O v := by
  simp only [opAct, run_ev] at hrun
  obtain ⟨hb, rfl⟩ := run_give hrun
  have hx := trO_rel hr h1 μ.O
  have key : ∃ n : Nat, (Builtin.len_ #[t] o.type #[a.eval x]).run X.P μ.w = .ok (goInt n) μ.w ∧ v = .int .i64 n := by
    cases hy : evalOpd ⟨T, μ.O⟩ x' <;> rw [hy] at hb hx <;> simp [lenV] at hb
    · simp only [VRel] at hx
      obtain ⟨p, hp⟩ := hx
      exact ⟨0, by simp [Builtin.len_, Sem.run_bind, run_underlying hd, hp], hb.symm⟩
    · simp only [VRel] at hx
      obtain ⟨_, _, p, cap, vs, hp, _⟩ := hx
      exact ⟨_, by simp [Builtin.len_, Sem.run_bind, run_underlying hd, hp], hb.symm⟩
    · simp only [VRel] at hx
      obtain ⟨p, cap, hp, _⟩ := hx
      exact ⟨_, by simp [Builtin.len_, Sem.run_bind, run_underlying hd, hp], hb.symm⟩
  obtain ⟨n, h2, rfl⟩ := key
  refine ⟨rfl, done_pure (val := goInt n) hr.objs ?_ (by simp [VRel, goInt])⟩
  refine run_builtin ho hc ?_
  simp only [builtin, ha, ht]
  refine run_v ?_
  simpa using h2

theorem op_lenStr {c : Call} {x : Operand} {t : TypeId} {x' : AOpd} (hr : Rel X T a μ) (ho : o.op = .call c) (hc : c.callee = .builtin .len) (ha : c.args = #[x]) (ht : c.argTypes = #[t])
    (hd : descT X t = some .string) (h1 : trO X x = some x') (hrun : (opAct E (.lenStr x')).run C ⟨T, μ.O⟩ = some (v, σ')) :
    σ'.T = T ∧ Done X o a μ σ'.O v := by
  simp only [opAct, run_ev] at hrun
  have hx := trO_rel hr h1 μ.O
  split at hrun
  · rename_i s e
    obtain ⟨rfl, rfl⟩ := run_done hrun
    rw [e] at hx; simp only [VRel] at hx
    obtain ⟨bs, hbs, rfl⟩ := hx
    refine ⟨rfl, done_pure (val := goInt bs.size) hr.objs ?_ (by simp only [VRel, goInt]; rw [Array.length_toList]; rfl)⟩
    refine run_builtin ho hc ?_
    simp only [builtin, ha, ht]
    refine run_v ?_
    simp [Builtin.len_, Sem.run_bind, run_underlying hd, hbs]
  · exact absurd hrun run_fail

theorem op_lenArr {c : Call} {x : Operand} {t e : TypeId} {n : Nat} (hr : Rel X T a μ) (ho : o.op = .call c) (hc : c.callee = .builtin .len) (ha : c.args = #[x]) (ht : c.argTypes = #[t])
    (hd : descT X t = some (.array n e)) (hrun : (opAct E (.move (.const (.int .i64 n)))).run C ⟨T, μ.O⟩ = some (v, σ')) :
    σ'.T = T ∧ Done X o a μ σ'.O v := by
  simp only [opAct, run_ev, evalOpd] at hrun
  obtain ⟨rfl, rfl⟩ := run_done hrun
  refine ⟨rfl, done_pure (val := goInt n) hr.objs ?_ (by simp [VRel, goInt])⟩
  refine run_builtin ho hc ?_
  simp only [builtin, ha, ht]
  refine run_v ?_
  simp [Builtin.len_, Sem.run_bind, run_underlying hd]

theorem foldV_min {w : World} : ∀ {xs : List V} {x : V} {u : V} {xv : Value} {vs : List Value}, VRel X μ x xv → VRels X μ xs vs → foldV min2 (x :: xs) = some u →
    ∃ val, (vs.foldlM Builtin.min2 xv).run X.P w = .ok val w ∧ VRel X μ u val
  | [], x, u, xv, [], hx, _, h => by simp [foldV, foldV1] at h; subst h; exact ⟨xv, by simp, hx⟩
  | [], _, _, _, _ :: _, _, hv, _ => by simp [VRels] at hv
  | _ :: _, _, _, _, [], _, hv, _ => by simp [VRels] at hv
  | y :: ys, x, u, xv, yv :: vs, hx, hv, h => by
    simp only [VRels] at hv
    simp only [foldV, foldV1] at h
    split at h
    · rename_i z hz
      have : ∃ zv, (Builtin.min2 xv yv).run X.P w = .ok zv w ∧ VRel X μ z zv := by
        unfold min2 at hz
        split at hz
        · split at hz <;> simp at hz
          rename_i hk; subst hk; subst hz
          have h1 := hv.1
          simp only [VRel] at hx h1
          subst hx; subst h1
          exact ⟨_, by simp [Builtin.min2]; rfl, by simp [VRel]⟩
        · simp at hz
      obtain ⟨zv, h1, h2⟩ := this
      obtain ⟨val, h3, h4⟩ := foldV_min (w := w) h2 hv.2 h
      exact ⟨val, by simp [List.foldlM_cons, Sem.run_bind, h1, h3], h4⟩
    · simp at h

theorem foldV_max {w : World} : ∀ {xs : List V} {x : V} {u : V} {xv : Value} {vs : List Value}, VRel X μ x xv → VRels X μ xs vs → foldV max2 (x :: xs) = some u →
    ∃ val, (vs.foldlM Builtin.max2 xv).run X.P w = .ok val w ∧ VRel X μ u val
  | [], x, u, xv, [], hx, _, h => by simp [foldV, foldV1] at h; subst h; exact ⟨xv, by simp, hx⟩
  | [], _, _, _, _ :: _, _, hv, _ => by simp [VRels] at hv
  | _ :: _, _, _, _, [], _, hv, _ => by simp [VRels] at hv
  | y :: ys, x, u, xv, yv :: vs, hx, hv, h => by
    simp only [VRels] at hv
    simp only [foldV, foldV1] at h
    split at h
    · rename_i z hz
      have : ∃ zv, (Builtin.max2 xv yv).run X.P w = .ok zv w ∧ VRel X μ z zv := by
        unfold max2 at hz
        split at hz
        · split at hz <;> simp at hz
          rename_i hk; subst hk; subst hz
          have h1 := hv.1
          simp only [VRel] at hx h1
          subst hx; subst h1
          exact ⟨_, by simp [Builtin.max2]; rfl, by simp [VRel]⟩
        · simp at hz
      obtain ⟨zv, h1, h2⟩ := this
      obtain ⟨val, h3, h4⟩ := foldV_max (w := w) h2 hv.2 h
      exact ⟨val, by simp [List.foldlM_cons, Sem.run_bind, h1, h3], h4⟩
    · simp at h

theorem op_min {c : Call} {xs : List AOpd} (hr : Rel X T a μ) (ho : o.op = .call c) (hc : c.callee = .builtin .min) (h1 : trOs X c.args.toList = some xs)
    (hrun : (opAct E (.min xs)).run C ⟨T, μ.O⟩ = some (v, σ')) : σ'.T = T ∧ Done X o a μ σ'.O v := by
  simp only [opAct, run_evs] at hrun
  obtain ⟨hb, rfl⟩ := run_give hrun
  have hx := trOs_rel hr μ.O h1
  generalize hq : xs.map (evalOpd ⟨T, μ.O⟩) = us at hb hx
  generalize hp : c.args.toList.map a.eval = vs at hx
  match us, vs, hx, hb with
  | [], _, _, hb => simp [foldV, foldV1] at hb
  | u :: us, [], hx, _ => simp [VRels] at hx
  | u :: us, y :: vs, hx, hb =>
    simp only [VRels] at hx
    obtain ⟨val, h2, h3⟩ := foldV_min (w := μ.w) hx.1 hx.2 hb
    refine ⟨rfl, done_pure (val := val) hr.objs (run_builtin ho hc ?_) h3⟩
    simp only [builtin]
    refine run_v ?_
    simp only [Builtin.min_, Array.toList_map, hp]
    exact h2

theorem op_max {c : Call} {xs : List AOpd} (hr : Rel X T a μ) (ho : o.op = .call c) (hc : c.callee = .builtin .max) (h1 : trOs X c.args.toList = some xs)
    (hrun : (opAct E (.max xs)).run C ⟨T, μ.O⟩ = some (v, σ')) : σ'.T = T ∧ Done X o a μ σ'.O v := by
  simp only [opAct, run_evs] at hrun
  obtain ⟨hb, rfl⟩ := run_give hrun
  have hx := trOs_rel hr μ.O h1
  generalize hq : xs.map (evalOpd ⟨T, μ.O⟩) = us at hb hx
  generalize hp : c.args.toList.map a.eval = vs at hx
  match us, vs, hx, hb with
  | [], _, _, hb => simp [foldV, foldV1] at hb
  | u :: us, [], hx, _ => simp [VRels] at hx
  | u :: us, y :: vs, hx, hb =>
    simp only [VRels] at hx
    obtain ⟨val, h2, h3⟩ := foldV_max (w := μ.w) hx.1 hx.2 hb
    refine ⟨rfl, done_pure (val := val) hr.objs (run_builtin ho hc ?_) h3⟩
    simp only [builtin]
    refine run_v ?_
    simp only [Builtin.max_, Array.toList_map, hp]
    exact h2

end
end Go.AM
