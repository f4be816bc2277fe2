/-
  Functions that the machine answers by itself: math.sqrt, slices.Clone. Own work.
-/
import Derived.Test.YtnjbmkcbhnkggaaAmSound
import Derived.Test.YtnjbmkcbhnkggaaAmSim
import Derived.Laws.Externs
import Derived.Laws.Cover3
import GoSem.Extern.MathSqrt
set_option linter.unusedSimpArgs false
namespace Go.AM
open Go Go.RowKit

section
variable {X : TrEnv} {F : FuncId} {fn : Func}

theorem enter_O_pure {args : List V} (h : V.arePure args = true) : (enter args).O = fun _ => deadObj := by rw [enter_pure h]

theorem sqrt_sound (hfn : X.P.funcs[F]? = some fn) (hname : (fn.name == "runtime.NumGoroutine") = false) (hb : fn.body.isNone = true) (hn : Extern.findNext fn = none) (he : Extern.find fn = some Extern.MathSqrt.sqrt)
    {as : List V} {res : Res} (h : sqrtV as = some res) : SoundCall X F as res := by
  unfold sqrtV at h
  split at h
  · rename_i b
    split at h
    · rename_i r hr
      injection h with h; subst h
      intro B w φ0 vals hl hv ho
      match vals, hl with
      | [v], _ =>
        have h0 := hv 0 v rfl
        have e0 : (enter [V.float b]).T 0 = .float b := rfl
        rw [e0] at h0
        simp only [VRel] at h0
        subst h0
        rw [run_callFunc_extern hfn hname hb hn he]
        have hrun : (Extern.MathSqrt.sqrt #[.float .f64 b]).run X.P w = .ok (.float .f64 r) w := by
          have e : Extern.MathSqrt.sqrt #[.float .f64 b] = (match FloatKind.f64.format.sqrt b with
              | some r => pure (.float .f64 r)
              | none => do pure (.float .f64 (← choose (.nanBits .f64 b b)))) := rfl
          rw [e, hr]; rfl
        have e1 : ([Value.float .f64 b] : List Value).toArray = #[.float .f64 b] := rfl
        rw [e1, hrun]
        simp only [Result.andThen, Upon]
        refine ⟨φ0, fun _ => undefV, _, .float r, [], Le.refl _, ho, by simp [VRel], .one (by simp [exportV, V.isPure]), rfl, rfl⟩
    · simp at h
  · simp at h

/-- nothing is called -/
def E00 : Env := ⟨fun _ => none, fun _ _ => none⟩
def C00 : Oracle := fun _ _ => none

def strip (o : AOper) : AOper := { o with pre := [] }
/-- slices.Clone: what it is made of -/
structure CloneShape (X : TrEnv) (fn : Func) (sz lim : Nat) : Prop where
  body : ∃ i0 i1 i2 i3 ops0 ops1 ops2 ops3, fn.body = some (.seq (.region i0 ops0 false) (.seq (.seq (.region i1 ops1 false) (.cond (.tmp 4) (.seq (.region i2 ops2 false) .ret) .skip)) (.seq (.region i3 ops3 false) .ret))) ∧
    (trOpers X ⟨[], [], [], fn.ntmps⟩ ops0 ops0.toList).map (List.map strip) = some [⟨some 2, .move (.const .nils), none, []⟩] ∧
    (trOpers X ⟨[], [], [], fn.ntmps⟩ ops2 ops2.toList).map (List.map strip) = some [⟨some 2, .move (.const .nils), none, []⟩] ∧
    (∃ zero, isBlank zero sz = true ∧ 0 < sz ∧ (trOpers X ⟨[], [], [], fn.ntmps⟩ ops3 ops3.toList).map (List.map strip) = some [⟨some 5, .buildSlice 96 sz zero 0 [], none, []⟩, ⟨some 6, .move (.tmp 0), none, []⟩, ⟨some 7, .append 128 sz lim (.tmp 5) (.tmp 6), none, []⟩, ⟨some 2, .move (.tmp 7), none, []⟩]) ∧
    (∃ o1 o2 t e, ops1 = #[o1, o2] ∧ (trOper X ⟨[], [], [], fn.ntmps⟩ #[o1, o2] o1).map strip = some ⟨some 3, .move (.tmp 0), none, []⟩ ∧ o2.dst = some 4 ∧ o2.guard = none ∧ o2.op = .binOp .eql t (.tmp 3) (.const (.slice none 0 0)) t ∧ X.P.underlying t = some (.slice e))
  res : fn.results = #[.tmp 2]
  tmps : 8 ≤ fn.ntmps

theorem opHyp00 {Y : Ctx} (hinj : ∀ t1 t2 k, Y.tnum t1 = some k → Y.tnum t2 = some k → t1 = t2) : OpHyp Y E00 C00 :=
  op_hyp hinj fun _ _ _ _ _ h => by simp [C00] at h
theorem opHypC {Y : Ctx} (hinj : ∀ t1 t2 k, Y.tnum t1 = some k → Y.tnum t2 = some k → t1 = t2) (n : Nat) : OpHyp Y E00 (call E00 n) :=
  op_hyp hinj fun _ _ _ _ _ h => by simp [call, callWith, E00] at h

theorem clone_sound (hinj : ∀ t1 t2 k, X.tnum t1 = some k → X.tnum t2 = some k → t1 = t2) (hfn : X.P.funcs[F]? = some fn) (hname : (fn.name == "runtime.NumGoroutine") = false) {sz lim : Nat} (hsh : CloneShape X fn sz lim)
    {as : List V} {res : Res} (h : cloneV sz lim as = some res) : SoundCall X F as res := by
  obtain ⟨⟨i0, i1, i2, i3, ops0, ops1, ops2, ops3, hbody, h0, h2, ⟨zero, hz1, hz2, h3⟩, o1, o2, t, e, rfl, ho1, hd2, hg2, hop2, hty⟩, hres, htm⟩ := hsh
  rw [Option.map_eq_some_iff] at h0 h2 h3 ho1
  obtain ⟨as0, h0, k0⟩ := h0
  obtain ⟨as2, h2, k2⟩ := h2
  obtain ⟨as3, h3, k3⟩ := h3
  obtain ⟨ao1, ho1, k1⟩ := ho1
  have k0' : as0.map (fun o => { o with pre := [] }) = _ := k0
  have k2' : as2.map (fun o => { o with pre := [] }) = _ := k2
  have k3' : as3.map (fun o => { o with pre := [] }) = _ := k3
  -- the argument: a slice that came in
  obtain ⟨a0, xs, rfl, hcase, hlim, rfl⟩ : ∃ a0 xs, as = [a0] ∧ (a0 = .lit sz xs ∨ a0 = .nils ∧ xs = []) ∧ xs.length ≤ lim ∧ res = ⟨.own sz xs, []⟩ := by
    unfold cloneV at h
    split at h
    · injection h with h; exact ⟨_, [], rfl, .inr ⟨rfl, rfl⟩, by simp, h.symm⟩
    · rename_i sz' xs
      split at h
      · rename_i he; injection h with h; obtain ⟨rfl, he⟩ := he; exact ⟨_, xs, rfl, .inl rfl, he, h.symm⟩
      · simp at h
    · simp at h
  have hpure : V.arePure [a0] = true := by rcases hcase with rfl | ⟨rfl, rfl⟩ <;> rfl
  intro B w φ0 vals hvl hv ho
  have hO : (enter [a0]).O = fun _ => deadObj := enter_O_pure hpure
  have hT0 : (enter [a0]).T 0 = a0 := by rw [enter_pure hpure]; rfl
  have hcf : (callFunc F vals.toArray).run X.P w = .ok (.enter F vals.toArray) w := by
    simp [callFunc, Sem.run_bind, program, Sem.run, hfn, hbody]
    simpa using hname
  rw [hcf]
  simp only [Upon]
  refine calls_of_wp hfn hbody ?_
  have hsz : vals.toArray.size ≤ fn.ntmps := by simp [hvl]; omega
  have hsim : Sim ⟨X, B⟩ ⟨w, φ0, (enter [a0]).O⟩ fn.ntmps (enter [a0]) { tmps := vals.toArray ++ Array.replicate (fn.ntmps - vals.toArray.size) undef, defers := [] } w := by
    refine ⟨rfl, by simp at hsz ⊢; omega, φ0, ⟨fun t => ?_, ho⟩, Le.refl _⟩
    by_cases ht : t < vals.length
    · have e1 : (vals.toArray ++ Array.replicate (fn.ntmps - vals.toArray.size) undef).getD t undef = vals[t] := by
        simp [Array.getElem?_append, ht]
      rw [e1]
      exact hv t _ (List.getElem?_eq_getElem ht)
    · have e1 : (vals.toArray ++ Array.replicate (fn.ntmps - vals.toArray.size) undef).getD t undef = undef := by
        simp [Array.getElem?_append, ht, Array.getElem?_replicate]
        split <;> rfl
      have e2 : (enter [a0]).T t = undefV := by
        have : [a0][t]? = none := List.getElem?_eq_none (by omega)
        simp [enter, this]
      rw [e1, e2]
      exact undef_rel
  have H := opHyp00 (Y := ⟨X, B⟩) hinj
  -- region 0
  refine wp_seq (wp_mono (wp_region (Q := fun ex a w' => ex = .normal ∧ Sim ⟨X, B⟩ ⟨w, φ0, (enter [a0]).O⟩ fn.ntmps ((enter [a0]).put (some 2) .nils) a w') ?_) ?_)
  · rw [List.range_eq_range']
    refine region_sound H (h := ⟨[], [], [], fn.ntmps⟩) rfl h0 ops0.size 0 (by omega) hsim (by rw [List.drop_zero, k0']; rfl) fun a' w' hs' => ⟨rfl, hs'⟩
  rintro ex a1 w1 ⟨rfl, hs1⟩
  refine wp_seq (wp_seq (wp_region ?_))
  have hr01 : List.range (#[o1, o2] : Array Oper).size = [0, 1] := rfl
  rw [hr01, wpOps_cons]
  have eT0 : ((enter [a0]).put (some 2) .nils).T 0 = a0 := hT0
  have hrun0 : runOp E00 C00 ao1 ((enter [a0]).put (some 2) .nils) = some (((enter [a0]).put (some 2) .nils).put (some 3) a0) := by
    have hs : runOp E00 C00 (strip ao1) ((enter [a0]).put (some 2) .nils) = some (((enter [a0]).put (some 2) .nils).put (some 3) a0) := by
      rw [k1]
      show some (((enter [a0]).put (some 2) .nils).put (some 3) (((enter [a0]).put (some 2) .nils).T 0)) = _
      rw [eT0]
    exact hs
  refine oper_sound H (h := ⟨[], [], [], fn.ntmps⟩) (o := o1) rfl ho1 rfl hs1 hrun0 fun a2 w2 hs2 => ?_
  generalize hσ2 : ((enter [a0]).put (some 2) .nils).put (some 3) a0 = σ2 at hs2
  have e23 : σ2.T 3 = a0 := by rw [← hσ2]; rfl
  have e20 : σ2.T 0 = a0 := by rw [← hσ2]; exact hT0
  have e2O : σ2.O = fun _ => deadObj := by rw [← hσ2]; exact hO
  rw [wpOps_cons]
  obtain ⟨hdef2, hsz2, φ2, hr2, hle2⟩ := hs2
  have h30 := hr2.tmps 3
  rw [e23] at h30
  obtain ⟨ad, n, cap, hval⟩ : ∃ ad n cap, a2.tmps.getD 3 undef = .slice ad n cap := by
    rcases hcase with rfl | ⟨rfl, _⟩
    · simp only [VRel] at h30
      obtain ⟨_, _, a, c, _, h, _⟩ := h30
      exact ⟨_, _, _, h⟩
    · simp only [VRel] at h30
      obtain ⟨a, h⟩ := h30
      exact ⟨_, _, _, h⟩
  have hnone : ad.isNone = true → xs = [] := by
    intro hn
    rcases hcase with rfl | ⟨rfl, h9⟩
    · simp only [VRel] at h30
      obtain ⟨_, _, a, c, _, h, _, _, h'⟩ := h30
      rw [hval] at h
      injection h with h _ _
      rcases h' with h' | ⟨b, o, h', _⟩
      · exact h'
      · rw [h, h'] at hn; simp at hn
    · exact h9
  have heq : (Op.equal t (.slice ad n cap) (.slice none 0 0)).run X.P w2 = .ok ad.isNone w2 := run_equal_slice_nil w2 t e ad n cap hty
  have hexec : (execOp a2.eval o2).run X.P w2 = .ok (.value (.bool ad.isNone)) w2 := by
    simp only [execOp, hop2]
    refine run_v ?_
    have ev : a2.eval (.tmp 3) = .slice ad n cap := by simpa [Go.Act.eval] using hval
    have ev2 : a2.eval (.const (.slice none 0 0)) = .slice none 0 0 := rfl
    simp [eqGuard, ev, ev2, Go.binOp, Sem.run_bind, heq]
  have hi1 : (#[o1, o2] : Array Oper)[1]? = some o2 := rfl
  simp only [wpOp, hi1]
  rw [if_pos (by simp [Region.wanted, hg2])]
  refine .inl ?_
  unfold Oper.wp
  rw [hexec, Oper.upon_value]
  simp only [wpOps]
  have hs3 : Sim ⟨X, B⟩ ⟨w, φ0, (enter [a0]).O⟩ fn.ntmps (σ2.put (some 4) (.bool ad.isNone)) (a2.put o2.dst (.bool ad.isNone)) w2 := by
    rw [hd2]
    refine ⟨by rw [put_defers]; exact hdef2, by rw [put_size]; exact hsz2, φ2, ?_, ?_⟩
    · exact put_rel hr2 (Le.refl _) hr2.objs (by simp [VRel]) (by simp; rw [hsz2]; simp; omega) σ2.O
    · exact hle2
  generalize a2.put o2.dst (.bool ad.isNone) = a3 at hs3 ⊢
  have hc4 : a3.eval (.tmp 4) = .bool ad.isNone := opd_bool (c' := .tmp 4) hs3 rfl rfl
  have hxs : V.arePure xs = true ∧ xs.all (isBlank · sz) = true := by
    rcases hcase with rfl | ⟨rfl, h9⟩
    · simp only [VRel] at h30
      obtain ⟨k1, k2, a, c, vs, _, _, k3, k4⟩ := h30
      refine ⟨k1, ?_⟩
      rcases k4 with rfl | ⟨b, o, _, _, _, k5⟩
      · rfl
      · rw [List.all_eq_true] at k2 ⊢
        intro x hx
        obtain ⟨i, hi⟩ := List.mem_iff_getElem?.1 hx
        obtain ⟨v, hv1, hv2⟩ := VRels.get k3 hi
        have := (k5 i v hv1).1
        rw [hv2.cells_size (k2 x hx)] at this
        simp [isBlank, this, k2 x hx]
    · subst h9; exact ⟨rfl, rfl⟩
  -- how the call ends
  have fini : ∀ (a' : Go.Act) (w' : World) (O' : Nat → Obj), a'.defers = [] → (∃ φ', Le ⟨w, φ0, (enter [a0]).O⟩ ⟨w', φ', O'⟩ ∧ Objs ⟨X, B⟩ ⟨w', φ', O'⟩ ∧ ∃ r g, 1 ≤ r ∧ VRel ⟨X, B⟩ ⟨w', φ', O'⟩ (.sl r g 0 xs.length) (a'.tmps.getD 2 undef) ∧ O' r = ⟨g, sz, true, false, some xs⟩) →
      bodyPost X.P fn (fun | .returned val, w' => ∃ φ' T' O' v0 refs, Le ⟨w, φ0, (enter [a0]).O⟩ ⟨w', φ', O'⟩ ∧ Objs ⟨X, B⟩ ⟨w', φ', O'⟩ ∧ VRel ⟨X, B⟩ ⟨w', φ', O'⟩ v0 val ∧ Exported [a0].length ⟨T', O'⟩ v0 (Res.mk (.own sz xs) []).val refs ∧ distinct refs = true ∧ outsOf O' 0 [a0] = some (Res.mk (.own sz xs) []).outs | _, _ => False) .ret a' w' := by
    rintro a' w' O' hd ⟨φ', k1, k2, r, g, k3, k4, k5⟩
    refine ⟨hd, a'.tmps.getD 2 undef, by simp [results, hres], φ', fun _ => undefV, O', _, [r], k1, k2, k4, .one ?_, rfl, outsOf_pure hpure⟩
    have hwin : window xs 0 xs.length = xs := window_all rfl
    have hnr : ¬ r < [a0].length := by simp; omega
    simp only [exportV, V.isPure, exportCell, k5, hwin, hxs.1, hnr]
    simp
  cases hb : ad.isNone with
  | true =>
    rw [hb] at hc4
    obtain rfl := hnone hb
    refine wp_cond_true hc4 (wp_seq (wp_region ?_))
    rw [List.range_eq_range']
    refine region_sound H (h := ⟨[], [], [], fn.ntmps⟩) rfl h2 ops2.size 0 (by omega) hs3 (σ' := (σ2.put (some 4) (.bool ad.isNone)).put (some 2) .nils) (by rw [List.drop_zero, k2']; rfl) fun a' w' hs' => ?_
    refine wp_ret ?_
    obtain ⟨hd', _, φ, hr', hle'⟩ := hs'
    have eO : ((σ2.put (some 4) (.bool ad.isNone)).put (some 2) .nils).O = fun _ => deadObj := e2O
    have hv2 := hr'.tmps 2
    have e2 : ((σ2.put (some 4) (.bool ad.isNone)).put (some 2) .nils).T 2 = .nils := rfl
    rw [e2] at hv2
    have hobj := hr'.objs
    rw [eO] at hle' hobj
    simp only [VRel] at hv2
    obtain ⟨aa, haa⟩ := hv2
    refine fini a' w' (upd (fun _ => deadObj) 1 ⟨1, sz, true, false, some []⟩) hd' ⟨upd φ 1 ⟨0, 0, 0⟩, hle'.trans ⟨Nat.le_refl _, fun b hb hn => ⟨rfl, ?_⟩, fun r => ?_, fun r hr => ?_, rfl, rfl, rfl, fun _ _ => rfl, fun _ h => frozen_out h⟩, ⟨fun r es hes => ?_, fun r r' _ h1 h2 h3 h4 => ?_, fun r h1 h2 => ?_, hobj.blt⟩, 1, 1, Nat.le_refl _, ?_, rfl⟩
    · rintro ⟨r, h1, h2, h3, h4⟩
      by_cases e : r = 1
      · subst e; simp [upd] at h3
      · simp [upd, e, deadObj] at h1
    · simp only [deadObj]; omega
    · by_cases e : r = 1
      · subst e; simp [upd, deadObj] at hr
      · simp [upd, e]
    · by_cases e : r = 1
      · subst e
        simp only [upd, if_true, Option.some.injEq] at hes ⊢
        subst hes
        exact ⟨hz2, by simp, rfl, by simp⟩
      · simp [upd, e, deadObj] at hes
    · by_cases e : r = 1
      · subst e; simp [upd] at h3
      · simp [upd, e, deadObj] at h1
    · by_cases e : r = 1
      · subst e; simp [upd] at h2
      · simp [upd, e, deadObj] at h1
    · simp only [VRel]
      exact ⟨aa, 0, haa, by simp, by simp [upd], fun _ => ⟨by simp [upd], by simp⟩⟩
  | false =>
    rw [hb] at hc4
    refine wp_cond_false hc4 (wp_skip ?_)
    refine wp_seq (wp_region ?_)
    have hw3 : wpo E00 [⟨some 5, .buildSlice 96 sz zero 0 [], none, []⟩, ⟨some 6, .move (.tmp 0), none, []⟩, ⟨some 7, .append 128 sz lim (.tmp 5) (.tmp 6), none, []⟩, ⟨some 2, .move (.tmp 7), none, []⟩] (σ2.put (some 4) (.bool ad.isNone))
        (fun σ' => ∃ g, σ'.T 2 = .sl 96 g 0 xs.length ∧ σ'.O 96 = ⟨g, sz, true, false, some xs⟩) := by
      have hO96 : σ2.O 96 = deadObj := by rw [e2O]
      have hz0 : 0 * sz ≤ 16777216 := by simp
      have hzb := hz1
      simp only [isBlank, V.lies] at hzb
      have hcont : ∀ (k : List V → Act), content sz a0 k = k xs := by
        intro k
        rcases hcase with rfl | ⟨rfl, rfl⟩ <;> simp [content]
      by_cases hx : xs = []
      · subst hx
        simp only [wpc_seq, wpc_region, wpc_skip, wpc_exit, wpc_ret, wpc_scope, wpc_block, wpc_cond, wpo_cons, wpo_nil, wpx_cons, wpx_nil, operAct, aop_indexAddr, aop_slice, aop_append, opAct.putIn, wpa_getT, wpa_getO, wpa_setO, wpa_done, wpa_fail, wpa_give, wpa_ite, wpf_getT, wpf_getO, wpf_setO, wpf_done, wpf_fail, wpf_give, wpf_ite, isBlank, V.lies, V.isPure, V.arePure, V.isScalar, V.areScalar, frz_pure, outsOf_pure, exportV_pure, importRes_pure, part_cell, put_T, put_O, setO_T, setO_O, put_none, dstLoc, deadObj, andThen, outOf, evalOpd_tmp, evalOpd_const, boolV, undefV, Res.mk.injEq, V.int.injEq, V.tuple.injEq, List.cons.injEq, V.bool.injEq, V.str.injEq, V.agg.injEq, List.getD_cons_zero, List.getD_cons_succ, List.getD_nil, List.length_cons, List.length_nil, List.getElem?_cons_zero, List.getElem?_cons_succ, List.set_cons_zero, List.set_cons_succ, List.take_succ_cons, List.take_zero, List.drop_succ_cons, List.drop_zero, List.take_nil, List.drop_nil, List.cons_append, List.nil_append, List.append_nil, Nat.zero_add, Nat.add_zero, Nat.reduceAdd, Nat.reduceSub, Nat.reduceMul, Nat.reduceEqDiff, Nat.reduceLT, Nat.reduceLeDiff, Nat.reduceBEq, BEq.rfl, Bool.true_or, Bool.or_true, Bool.false_or, Bool.or_false, Bool.and_true, Bool.true_and, Bool.and_false, Bool.false_and, Bool.and_self, Bool.or_self, Bool.false_eq_true, Bool.true_eq_false, Bool.not_true, Bool.not_false, Nat.lt_add_one, Nat.le_refl, decide_true, decide_false, decide_eq_true_eq, if_true, if_false, ↓reduceIte, true_and, and_true, and_self, false_and, and_false, reduceCtorEq, Nat.sub_zero, Option.some.injEq, Nat.zero_lt_one, Nat.lt_irrefl, ne_eq, not_true_eq_false, not_false_eq_true, V.cells.eq_1, V.cells.eq_2, V.isAgg.eq_1, V.isAgg.eq_2, V.isCell.eq_1, V.isCell.eq_2, V.isCell.eq_3, V.isCell.eq_4, V.isCell.eq_5, V.isCell.eq_6, V.isCell.eq_7, V.isTuple.eq_1, V.isTuple.eq_2, AM.part.eq_1, AM.part.eq_2, AM.part.eq_3, AM.part.eq_4, AM.putPart.eq_1, AM.putPart.eq_2, AM.putPart.eq_3, AM.putPart.eq_4, lenV.eq_1, lenV.eq_2, lenV.eq_3, lenV.eq_4, boundOf.eq_1, boundOf.eq_2, boundOf.eq_3, sliceStrV.eq_1, sliceStrV.eq_2, content.eq_1, content.eq_2, content.eq_3, content.eq_4, content.eq_5, fillCells.eq_1, fillCells.eq_2, fillElems.eq_1, fillElems.eq_2, frz.eq_1, frz.eq_2, frzCell.eq_1, frzCell.eq_2, frzCell.eq_3, frzCell.eq_4, frzCell.eq_5, frzCell.eq_6, frzCells.eq_1, frzCells.eq_2, frzs.eq_1, frzs.go.eq_1, frzs.go.eq_2, importRes.eq_1, importRes.eq_2, importV.eq_1, importV.eq_2, importVs.eq_1, importVs.eq_2, importCell.eq_1, importCell.eq_2, importCell.eq_3, importCells.eq_1, importCells.eq_2, exportCell.eq_1, exportCell.eq_2, exportCells.eq_1, exportCells.eq_2, exportV.eq_1, exportV.eq_2, exportV.eq_3, exportVs.eq_1, exportVs.eq_2, resultOf.eq_1, resultOf.eq_2, resultsOf.eq_1, resultsOf.eq_2, outsOf.eq_1, outsOf.eq_2, outsOf.eq_3, outsOf.eq_4, binV.eq_1, binV.eq_2, binV.eq_3, binV.eq_4, binV.eq_5, binV.eq_6, binV.eq_7, binV.eq_8, binV.eq_9, binV.eq_10, binV.eq_11, binV.eq_12, binV.eq_13, binV.eq_14, binV.eq_15, binV.eq_16, binV.eq_17, binV.eq_18, binV.eq_19, binV.eq_20, binV.eq_21, cmpInt.eq_1, cmpInt.eq_2, cmpInt.eq_3, cmpInt.eq_4, cmpInt.eq_5, cmpInt.eq_6, cmpInt.eq_7, unV.eq_1, unV.eq_2, unV.eq_3, unV.eq_4, min2.eq_1, min2.eq_2, max2.eq_1, max2.eq_2, foldV.eq_1, foldV.eq_2, foldV1.eq_1, foldV1.eq_2, eqK.eq_1, eqK.eq_2, eqK.eq_3, eqK.eq_4, eqKs.eq_1, eqKs.eq_2, eqKs.eq_3, evParts.eq_1, evParts.eq_2, evElems.eq_1, evElems.eq_2, ev.eq_1, ev.eq_2, evs.eq_1, evs.eq_2, evo.eq_1, evo.eq_2, idxAct.eq_1, idxAct.eq_2, idxAct.eq_3, give.eq_1, give.eq_2, leave.eq_1, distinct.eq_1, distinct.eq_2, fin.eq_1, fin.eq_2, fin.eq_3, opAct.eq_1, opAct.eq_2, opAct.eq_3, opAct.eq_4, opAct.eq_5, opAct.eq_6, opAct.eq_7, opAct.eq_8, opAct.eq_9, opAct.eq_10, opAct.eq_11, opAct.eq_12, opAct.eq_13, opAct.eq_14, opAct.eq_15, opAct.eq_16, opAct.eq_17, opAct.eq_18, opAct.eq_19, opAct.eq_20, opAct.eq_21, opAct.eq_23, opAct.eq_24, opAct.eq_26, opAct.eq_27, opAct.eq_28, opAct.eq_29, opAct.eq_30, opAct.eq_31, opAct.eq_32, opAct.eq_34, opAct.eq_35, opAct.eq_36, opAct.eq_37, opAct.eq_38, slcAct.eq_1, apart, freezeAll.eq_1, freezeAll.eq_2, putOuts.eq_1, putOuts.eq_2, putOuts.eq_3, lookRef.eq_1, lookRef.eq_2, List.map_nil, List.map_cons, List.all_nil, List.all_cons, List.contains_nil, List.contains_cons, sliceV.eq_1, sliceV.eq_2, Option.isSome_some, Option.isSome_none, Option.isNone_none, Option.isNone_some, int_beq, int_bne, bne_self_eq_false, Bool.bne_true, Bool.bne_false, Bool.true_bne, Bool.false_bne, window_all, List.isEmpty_cons, List.isEmpty_nil, eq_self, List.replicate_succ, List.replicate_zero, frzs_pure, Int.cast_ofNat_Int, Int.reduceToNat, Int.toNat_zero, Int.toNat_one, Int.reduceAdd, Int.reduceSub, Int.reduceMul, Int.reduceNeg, Int.reduceLE, Int.reduceLT, Int.reduceEq, Int.neg_ofNat_le_ofNat, Int.natCast_nonneg, Int.toNat_natCast, Int.toNat_natCast_add_one, Int.ofNat_lt, wrap64, Int.le_refl, e20, hO96, hcont, hzb, hz0, hz2, app_sl (show ([] : List V).all (isBlank · sz) = true from rfl), Nat.zero_le, overwrite]
        exact ⟨1, rfl, rfl⟩
      · have hpos : ¬ xs.length ≤ 0 := by
          intro h; exact hx (List.eq_nil_of_length_eq_zero (by omega))
        simp only [wpc_seq, wpc_region, wpc_skip, wpc_exit, wpc_ret, wpc_scope, wpc_block, wpc_cond, wpo_cons, wpo_nil, wpx_cons, wpx_nil, operAct, aop_indexAddr, aop_slice, aop_append, opAct.putIn, wpa_getT, wpa_getO, wpa_setO, wpa_done, wpa_fail, wpa_give, wpa_ite, wpf_getT, wpf_getO, wpf_setO, wpf_done, wpf_fail, wpf_give, wpf_ite, isBlank, V.lies, V.isPure, V.arePure, V.isScalar, V.areScalar, frz_pure, outsOf_pure, exportV_pure, importRes_pure, part_cell, put_T, put_O, setO_T, setO_O, put_none, dstLoc, deadObj, andThen, outOf, evalOpd_tmp, evalOpd_const, boolV, undefV, Res.mk.injEq, V.int.injEq, V.tuple.injEq, List.cons.injEq, V.bool.injEq, V.str.injEq, V.agg.injEq, List.getD_cons_zero, List.getD_cons_succ, List.getD_nil, List.length_cons, List.length_nil, List.getElem?_cons_zero, List.getElem?_cons_succ, List.set_cons_zero, List.set_cons_succ, List.take_succ_cons, List.take_zero, List.drop_succ_cons, List.drop_zero, List.take_nil, List.drop_nil, List.cons_append, List.nil_append, List.append_nil, Nat.zero_add, Nat.add_zero, Nat.reduceAdd, Nat.reduceSub, Nat.reduceMul, Nat.reduceEqDiff, Nat.reduceLT, Nat.reduceLeDiff, Nat.reduceBEq, BEq.rfl, Bool.true_or, Bool.or_true, Bool.false_or, Bool.or_false, Bool.and_true, Bool.true_and, Bool.and_false, Bool.false_and, Bool.and_self, Bool.or_self, Bool.false_eq_true, Bool.true_eq_false, Bool.not_true, Bool.not_false, Nat.lt_add_one, Nat.le_refl, decide_true, decide_false, decide_eq_true_eq, if_true, if_false, ↓reduceIte, true_and, and_true, and_self, false_and, and_false, reduceCtorEq, Nat.sub_zero, Option.some.injEq, Nat.zero_lt_one, Nat.lt_irrefl, ne_eq, not_true_eq_false, not_false_eq_true, V.cells.eq_1, V.cells.eq_2, V.isAgg.eq_1, V.isAgg.eq_2, V.isCell.eq_1, V.isCell.eq_2, V.isCell.eq_3, V.isCell.eq_4, V.isCell.eq_5, V.isCell.eq_6, V.isCell.eq_7, V.isTuple.eq_1, V.isTuple.eq_2, AM.part.eq_1, AM.part.eq_2, AM.part.eq_3, AM.part.eq_4, AM.putPart.eq_1, AM.putPart.eq_2, AM.putPart.eq_3, AM.putPart.eq_4, lenV.eq_1, lenV.eq_2, lenV.eq_3, lenV.eq_4, boundOf.eq_1, boundOf.eq_2, boundOf.eq_3, sliceStrV.eq_1, sliceStrV.eq_2, content.eq_1, content.eq_2, content.eq_3, content.eq_4, content.eq_5, fillCells.eq_1, fillCells.eq_2, fillElems.eq_1, fillElems.eq_2, frz.eq_1, frz.eq_2, frzCell.eq_1, frzCell.eq_2, frzCell.eq_3, frzCell.eq_4, frzCell.eq_5, frzCell.eq_6, frzCells.eq_1, frzCells.eq_2, frzs.eq_1, frzs.go.eq_1, frzs.go.eq_2, importRes.eq_1, importRes.eq_2, importV.eq_1, importV.eq_2, importVs.eq_1, importVs.eq_2, importCell.eq_1, importCell.eq_2, importCell.eq_3, importCells.eq_1, importCells.eq_2, exportCell.eq_1, exportCell.eq_2, exportCells.eq_1, exportCells.eq_2, exportV.eq_1, exportV.eq_2, exportV.eq_3, exportVs.eq_1, exportVs.eq_2, resultOf.eq_1, resultOf.eq_2, resultsOf.eq_1, resultsOf.eq_2, outsOf.eq_1, outsOf.eq_2, outsOf.eq_3, outsOf.eq_4, binV.eq_1, binV.eq_2, binV.eq_3, binV.eq_4, binV.eq_5, binV.eq_6, binV.eq_7, binV.eq_8, binV.eq_9, binV.eq_10, binV.eq_11, binV.eq_12, binV.eq_13, binV.eq_14, binV.eq_15, binV.eq_16, binV.eq_17, binV.eq_18, binV.eq_19, binV.eq_20, binV.eq_21, cmpInt.eq_1, cmpInt.eq_2, cmpInt.eq_3, cmpInt.eq_4, cmpInt.eq_5, cmpInt.eq_6, cmpInt.eq_7, unV.eq_1, unV.eq_2, unV.eq_3, unV.eq_4, min2.eq_1, min2.eq_2, max2.eq_1, max2.eq_2, foldV.eq_1, foldV.eq_2, foldV1.eq_1, foldV1.eq_2, eqK.eq_1, eqK.eq_2, eqK.eq_3, eqK.eq_4, eqKs.eq_1, eqKs.eq_2, eqKs.eq_3, evParts.eq_1, evParts.eq_2, evElems.eq_1, evElems.eq_2, ev.eq_1, ev.eq_2, evs.eq_1, evs.eq_2, evo.eq_1, evo.eq_2, idxAct.eq_1, idxAct.eq_2, idxAct.eq_3, give.eq_1, give.eq_2, leave.eq_1, distinct.eq_1, distinct.eq_2, fin.eq_1, fin.eq_2, fin.eq_3, opAct.eq_1, opAct.eq_2, opAct.eq_3, opAct.eq_4, opAct.eq_5, opAct.eq_6, opAct.eq_7, opAct.eq_8, opAct.eq_9, opAct.eq_10, opAct.eq_11, opAct.eq_12, opAct.eq_13, opAct.eq_14, opAct.eq_15, opAct.eq_16, opAct.eq_17, opAct.eq_18, opAct.eq_19, opAct.eq_20, opAct.eq_21, opAct.eq_23, opAct.eq_24, opAct.eq_26, opAct.eq_27, opAct.eq_28, opAct.eq_29, opAct.eq_30, opAct.eq_31, opAct.eq_32, opAct.eq_34, opAct.eq_35, opAct.eq_36, opAct.eq_37, opAct.eq_38, slcAct.eq_1, apart, freezeAll.eq_1, freezeAll.eq_2, putOuts.eq_1, putOuts.eq_2, putOuts.eq_3, lookRef.eq_1, lookRef.eq_2, List.map_nil, List.map_cons, List.all_nil, List.all_cons, List.contains_nil, List.contains_cons, sliceV.eq_1, sliceV.eq_2, Option.isSome_some, Option.isSome_none, Option.isNone_none, Option.isNone_some, int_beq, int_bne, bne_self_eq_false, Bool.bne_true, Bool.bne_false, Bool.true_bne, Bool.false_bne, window_all, List.isEmpty_cons, List.isEmpty_nil, eq_self, List.replicate_succ, List.replicate_zero, frzs_pure, Int.cast_ofNat_Int, Int.reduceToNat, Int.toNat_zero, Int.toNat_one, Int.reduceAdd, Int.reduceSub, Int.reduceMul, Int.reduceNeg, Int.reduceLE, Int.reduceLT, Int.reduceEq, Int.neg_ofNat_le_ofNat, Int.natCast_nonneg, Int.toNat_natCast, Int.toNat_natCast_add_one, Int.ofNat_lt, wrap64, Int.le_refl, e20, hO96, hcont, hzb, hz0, hz2, app_sl hxs.2, hxs.1, hlim, Nat.zero_le, hpos]
        exact ⟨2, rfl, rfl⟩
    obtain ⟨n, σ4, hrun4, g, hg1, hg2⟩ := hw3
    rw [List.range_eq_range']
    refine region_sound (opHypC (Y := ⟨X, B⟩) hinj n) (h := ⟨[], [], [], fn.ntmps⟩) rfl h3 ops3.size 0 (by omega) hs3 (by rw [List.drop_zero, k3']; exact hrun4) fun a' w' hs' => ?_
    refine wp_ret ?_
    obtain ⟨hd', _, φ, hr', hle'⟩ := hs'
    have hv2 := hr'.tmps 2
    rw [hg1] at hv2
    exact fini a' w' σ4.O hd' ⟨φ, hle', hr'.objs, 96, g, by omega, hv2, hg2⟩
end
end Go.AM
