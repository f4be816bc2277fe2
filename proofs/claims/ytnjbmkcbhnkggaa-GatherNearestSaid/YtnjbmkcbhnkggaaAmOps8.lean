/-
  Operations of the abstract machine against the model's: append, copy, clear. Own work.
-/
import Derived.Test.YtnjbmkcbhnkggaaAmOps7
set_option linter.unusedSimpArgs false
namespace Go.AM
open Go Go.RowKit

section
variable {X : Ctx} {E : Env} {C : Oracle} {o : Oper} {a : Go.Act} {T : Nat → V} {μ : Mu} {v : V} {σ' : St}

theorem flat_bytes (bs : List UInt8) : flat (bs.map fun b => Value.int .u8 b.toNat) = bs.map fun b => Value.int .u8 b.toNat := by
  induction bs with
  | nil => rfl
  | cons b bs ih => simp only [List.map_cons, flat, List.flatMap_cons] at ih ⊢; rw [ih]; rfl

theorem VRels.bytes (bs : List UInt8) : VRels X μ (bs.map fun b => V.int .u8 b.toNat) (bs.map fun b => Value.int .u8 b.toNat) := by
  induction bs with
  | nil => simp [VRels]
  | cons b bs ih => simp only [List.map_cons, VRels]; exact ⟨by simp [VRel], ih⟩

theorem content_sound {sz : Nat} {x : V} {xv : Value} {k : List V → Act} {p : V × St} (ho : Objs X μ) (hx : VRel X μ x xv) (hrun : (content sz x k).run C ⟨T, μ.O⟩ = some p) :
    ∃ ys us, (k ys).run C ⟨T, μ.O⟩ = some p ∧ VRels X μ ys us ∧ (Builtin.lenOf xv).run X.P μ.w = .ok ys.length μ.w ∧
      ∀ w', w'.heap = μ.w.heap → ∀ n, n ≤ ys.length → (Builtin.firstCells sz n xv).run X.P w' = .ok (flat (us.take n)).toArray w' := by
  cases x <;> simp only [content] at hrun <;> try exact absurd hrun run_fail
  · -- str
    split at hrun
    · rename_i s hs
      simp only [VRel] at hx
      obtain ⟨bs, rfl, rfl⟩ := hx
      refine ⟨_, _, hrun, VRels.bytes _, ?_, fun w' hw' n hn => ?_⟩
      · simp only [Builtin.lenOf, Sem.run_pure, List.length_map]; rw [len_toList]; rfl
      · have : (bs.extract 0 n).data.map (fun b => Value.int .u8 b.toNat) = (flat ((bs.data.toList.map fun b => Value.int .u8 b.toNat).take n)).toArray := by
          rw [← List.map_take, flat_bytes]
          apply Array.ext'
          simp [ByteArray.data_extract, Array.toList_extract, List.extract_eq_take_drop]
        simp only [Builtin.firstCells, Sem.run_pure, this]
    · exact absurd hrun run_fail
  · -- nils
    simp only [VRel] at hx
    obtain ⟨q, rfl⟩ := hx
    refine ⟨[], [], hrun, by simp [VRels], by simp [Builtin.lenOf], fun w' hw' n hn => ?_⟩
    have : n = 0 := by simpa using hn
    subst this
    cases q <;> simp [Builtin.firstCells, loadCells, loadCellsFrom, flat]
  · -- lit
    split at hrun
    · rename_i sz' xs hs
      subst hs
      simp only [VRel] at hx
      obtain ⟨_, _, q, cap, vs, rfl, _, hvs, hmem⟩ := hx
      refine ⟨xs, vs, hrun, hvs, by simp [Builtin.lenOf], fun w' hw' n hn => ?_⟩
      rcases hmem with rfl | ⟨b, q', rfl, _, _, hrow⟩
      · have : n = 0 := by simpa using hn
        subst this
        cases q <;> simp [Builtin.firstCells, loadCells, loadCellsFrom, flat]
      · simp only [Builtin.firstCells]
        exact load_flat (hrow.keep (by rw [hw'])) (by rw [← hvs.length]; exact hn)
    · exact absurd hrun run_fail
  · -- sl
    rename_i r g off len
    simp only [Act.run] at hrun
    split at hrun
    · rename_i es hes
      split at hrun
      · rename_i hc
        obtain ⟨hc1, hc2, hc3⟩ := hc
        simp only [VRel] at hx
        obtain ⟨q, cap, rfl, hle, _, haddr⟩ := hx
        obtain ⟨k1, k2⟩ := haddr hc1
        have hwl : (window es off len).length = len := by simp [window]; omega
        obtain ⟨q1, q2, q3, q4⟩ := ho.ok r es hes
        by_cases hcap : cap = 0
        · have hl0 : len = 0 := by omega
          subst hl0
          refine ⟨_, [], hrun, by simp [window, VRels], by simp [Builtin.lenOf, window], fun w' hw' n hn => ?_⟩
          have : n = 0 := by simpa [window] using hn
          subst this
          cases q <;> simp [Builtin.firstCells, loadCells, loadCellsFrom, flat]
        · rcases q4 with q4 | ⟨cc, TT, vs, p1, p2, p3, p4⟩
          · omega
          · have hqe := k2.resolve_left hcap
            subst hqe
            refine ⟨_, (vs.drop off).take len, hrun, VRels.take _ (VRels.drop _ p3), by simp only [Builtin.lenOf, Sem.run_pure, hwl], fun w' hw' n hn => ?_⟩
            simp only [Builtin.firstCells]
            have hr2 := (p4.drop off).take len
            rw [hc2] at hr2
            rw [hc2]
            refine load_flat (hr2.keep (by rw [hw'])) ?_
            rw [hwl] at hn
            have := p3.length
            simp; omega
      · exact absurd hrun run_fail
    · exact absurd hrun run_fail

/-! ### growing -/
theorem growBy_le (need : Nat) : ∀ (k c : Nat), c ≤ need + (need + 768) / 4 → Builtin.growBy need k c ≤ need + (need + 768) / 4
  | 0, c, h => h
  | k + 1, c, h => by
    simp only [Builtin.growBy]
    split
    · exact h
    · exact growBy_le need k _ (by omega)

theorem nextcap_le {need old : Nat} (h : old < need) : Builtin.nextslicecap need old ≤ 2 * need + 192 := by
  unfold Builtin.nextslicecap
  split
  · omega
  · split
    · omega
    · have := growBy_le need 4 old (by omega)
      omega

theorem lim_room {need old bytes : Nat} (h : old < need) (hl : need ≤ limOf bytes) : ¬ Builtin.nextslicecap need old * bytes > 2 ^ 48 ∧ ¬ ((need : Int) > IntKind.i64.max) := by
  unfold limOf at hl
  have h1 := nextcap_le h
  have h2 : need + 200 ≤ 140737488355328 / (bytes + 1) := by omega
  have h3 : (need + 200) * (bytes + 1) ≤ 140737488355328 := (Nat.le_div_iff_mul_le (by omega)).1 h2
  have h4 : Builtin.nextslicecap need old * bytes ≤ (2 * (need + 200)) * (bytes + 1) := Nat.mul_le_mul (by omega) (by omega)
  have h5 : (2 * (need + 200)) * (bytes + 1) = 2 * ((need + 200) * (bytes + 1)) := by rw [Nat.mul_assoc]
  have h6 : (2 : Nat) ^ 48 = 281474976710656 := by decide
  have h7 : need + 200 ≤ (need + 200) * (bytes + 1) := Nat.le_mul_of_pos_right _ (by omega)
  have h8 : IntKind.i64.max = 9223372036854775807 := by decide
  refine ⟨by omega, by rw [h8]; omega⟩

theorem append_fits_run {sT xT e : TypeId} {d : TypeDesc} {sz n sLen sCap : Nat} {base : Option Addr} {xv : Value} {new : Array Value} {w w' : World} {ty : TypeId}
    (hd : X.P.underlying sT = some (.slice e)) (hx : X.P.underlying xT = some d) (hdx : ∀ k, d ≠ .int k) (hn : sizeT X e = some sz) (hl : (Builtin.lenOf xv).run X.P w = .ok n w)
    (hfit : sLen + n ≤ sCap) (hnew : (Builtin.firstCells sz n xv).run X.P w = .ok new w)
    (hst : match base with | some p => (storeCells (p.add (sLen * sz)) new.toList).run X.P w = .ok () w' | none => w' = w) :
    (Builtin.append_ #[sT, xT] ty #[.slice base sLen sCap, xv]).run X.P w = .ok (.slice base (sLen + n) sCap) w' := by
  have hm : (match d with | .int _ => true | _ => false) = false := by
    cases d <;> first | rfl | exact absurd rfl (hdx _)
  have hg0 : (#[sT, xT] : Array TypeId)[0]? = some sT := rfl
  have hg1 : (#[sT, xT] : Array TypeId)[1]? = some xT := rfl
  have ha0 : (#[Value.slice base sLen sCap, xv] : Array Value)[0]? = some (.slice base sLen sCap) := rfl
  have ha1 : (#[Value.slice base sLen sCap, xv] : Array Value)[1]? = some xv := rfl
  simp only [Builtin.append_, hg0, hg1, ha0, ha1, Sem.run_bind, run_underlying hd, Result.andThen_ok, run_sizeT hn, run_underlying hx, Sem.run_pure, hm, Bool.false_eq_true, if_false, hl]
  rw [if_pos hfit]
  simp only [Bool.not_false, if_true, Sem.run_bind, hnew, Result.andThen_ok]
  cases base with
  | none => simp only at hst; subst hst; simp
  | some p => simp only at hst; simp [Sem.run_bind, hst]

theorem append_grow_run {sT xT e : TypeId} {d : TypeDesc} {sz n sLen sCap : Nat} {base : Option Addr} {xv zv : Value} {old new : Array Value} {w : World} {ty : TypeId} {i : TypeInfo}
    (hd : X.P.underlying sT = some (.slice e)) (hx : X.P.underlying xT = some d) (hdx : ∀ k, d ≠ .int k) (hn : sizeT X e = some sz) (hi : X.P.info? e = some i)
    (hz : ∀ w, (zeroValue e).run X.P w = .ok zv w) (hl : (Builtin.lenOf xv).run X.P w = .ok n w) (hgrow : sCap < sLen + n) (hlim : sLen + n ≤ limOf i.bytes)
    (hold : (Builtin.firstCells sz sLen (.slice base sLen sCap)).run X.P w.drew = .ok old w.drew) (hnew : (Builtin.firstCells sz n xv).run X.P w.drew = .ok new w.drew) :
    ∃ newCap, sLen + n ≤ newCap ∧ (Builtin.append_ #[sT, xT] ty #[.slice base sLen sCap, xv]).run X.P w =
      .ok (.slice (some ⟨w.heap.size, 0, none⟩) (sLen + n) newCap) (w.drew.alloc (.cells (old ++ new ++ Builtin.zeroCells zv.cells (newCap - (sLen + n))) e)) := by
  have hm : (match d with | .int _ => true | _ => false) = false := by
    cases d <;> first | rfl | exact absurd rfl (hdx _)
  have hg0 : (#[sT, xT] : Array TypeId)[0]? = some sT := rfl
  have hg1 : (#[sT, xT] : Array TypeId)[1]? = some xT := rfl
  have ha0 : (#[Value.slice base sLen sCap, xv] : Array Value)[0]? = some (.slice base sLen sCap) := rfl
  have ha1 : (#[Value.slice base sLen sCap, xv] : Array Value)[1]? = some xv := rfl
  obtain ⟨r1, r2⟩ := lim_room hgrow hlim
  refine ⟨(Question.appendCap (sLen + n) sCap e).cut (w.tape w.drawn (.appendCap (sLen + n) sCap e)), by simp [Question.cut], ?_⟩
  simp only [Builtin.append_, hg0, hg1, ha0, ha1, Sem.run_bind, run_underlying hd, Result.andThen_ok, run_sizeT hn, run_underlying hx, Sem.run_pure, hm, Bool.false_eq_true, if_false, hl]
  rw [if_neg (by omega)]
  simp only [Sem.run_bind, run_typeInfo w hi, Result.andThen_ok]
  have c2 : ¬ (((sLen + n : Nat) : Int) > IntKind.i64.max ∧ (False ∨ i.bytes = 0)) := fun h => r2 h.1
  rw [if_neg c2]
  simp only [Sem.run_bind, run_typeInfo w hi, Result.andThen_ok]
  rw [if_neg r1]
  have hch : (choose (.appendCap (sLen + n) sCap e)).run X.P w = .ok ((Question.appendCap (sLen + n) sCap e).cut (w.tape w.drawn (.appendCap (sLen + n) sCap e))) w.drew := by
    rw [run_choose]; simp only [Question.forced, Bool.false_eq_true, if_false]; rfl
  simp only [Sem.run_bind, hch, Result.andThen_ok, run_typeInfo w.drew hi, run_askRoom, hold, Bool.not_false, if_true, hnew, hz, Sem.run_pure, newRow, run_newObj]
  rfl

theorem spells_flat {us rest : List Value} {sz : Nat} (h : ∀ u ∈ us, u.cells.size = sz) : Spells (flat us ++ rest) 0 sz us := by
  intro i v hv
  have hm := h v (List.mem_of_getElem? hv)
  refine ⟨hm, fun j x hx => ?_⟩
  have := flat_get h hv hx
  have hlt : i * sz + j < (flat us).length := (List.getElem?_eq_some_iff.1 this).1
  rw [Nat.zero_add, List.getElem?_append_left hlt]; exact this

theorem flat_append (us vs : List Value) : flat (us ++ vs) = flat us ++ flat vs := by simp [flat]

theorem zeroCells_size {zv : Value} {sz n : Nat} (h : zv.cells.size = sz) : (Builtin.zeroCells zv.cells n).size = n * sz := by simp [Builtin.zeroCells, h]

theorem take_all' {α : Type} {n : Nat} {l : List α} (h : l.length ≤ n) : l.take n = l := List.take_of_length_le h

/-- the row of an append that grows -/
theorem grow_obj {O1 : Nat → Obj} (hO : Objs X ⟨μ.w, μ.φ, O1⟩) {r sz newCap : Nat} {olds ys : List V} {ous us : List Value} {zv : Value} {e : TypeId} {o0 : Obj}
    (ho0 : o0 = { gen := o0.gen, sz := sz, arr := true, fz := false, es := some (olds ++ ys) }) (hg' : o0.gen = (O1 r).gen + 1)
    (hsz : 0 < sz) (h1 : VRels X ⟨μ.w, μ.φ, O1⟩ olds ous) (h2 : VRels X ⟨μ.w, μ.φ, O1⟩ ys us) (b1 : olds.all (isBlank · sz) = true) (b2 : ys.all (isBlank · sz) = true)
    (hz : zv.cells.size = sz) (hcap : olds.length + ys.length ≤ newCap) :
    let μ' : Mu := ⟨μ.w.drew.alloc (.cells ((flat ous).toArray ++ (flat us).toArray ++ Builtin.zeroCells zv.cells (newCap - (olds.length + ys.length))) e), upd μ.φ r ⟨μ.w.heap.size, 0, newCap⟩, upd O1 r o0⟩
    Le ⟨μ.w, μ.φ, O1⟩ μ' ∧ Objs X μ' := by
  intro μ'
  obtain ⟨led, hod⟩ := Le.drew (X := X) (μ := ⟨μ.w, μ.φ, O1⟩) hO
  have hrel : VRels X ⟨μ.w.drew, μ.φ, O1⟩ (olds ++ ys) (ous ++ us) := VRels.mono led (h1.append h2)
  have hs : ∀ u ∈ ous ++ us, u.cells.size = sz := ((h1.append h2).cells_one (sz := sz) (by simp only [List.all_append, b1, b2, Bool.and_self])).1
  have hl1 := h1.length
  have hl2 := h2.length
  have hfl := flat_length hs
  have hcl : ((flat ous).toArray ++ (flat us).toArray ++ Builtin.zeroCells zv.cells (newCap - (olds.length + ys.length))).toList = flat (ous ++ us) ++ (Builtin.zeroCells zv.cells (newCap - (olds.length + ys.length))).toList := by
    simp [flat_append]
  have hcs : newCap * sz ≤ ((flat ous).toArray ++ (flat us).toArray ++ Builtin.zeroCells zv.cells (newCap - (olds.length + ys.length))).size := by
    rw [← len_toList, hcl, List.length_append, hfl, len_toList (Builtin.zeroCells _ _), zeroCells_size hz, ← Nat.add_mul]
    apply Nat.mul_le_mul_right
    rw [List.length_append]; omega
  have := new_obj (X := X) (μ := ⟨μ.w.drew, μ.φ, O1⟩) hod r sz newCap true (es := olds ++ ys) (vs := ous ++ us) (c := (flat ous).toArray ++ (flat us).toArray ++ Builtin.zeroCells zv.cells (newCap - (olds.length + ys.length))) e hsz
    (by simp; omega) (by simp only [List.all_append, b1, b2, Bool.and_self]) hrel hcs (fun i u hu => by
      have hsp := spells_flat (rest := (Builtin.zeroCells zv.cells (newCap - (olds.length + ys.length))).toList) hs
      rw [← hcl] at hsp
      obtain ⟨m1, m2⟩ := hsp i u hu
      refine ⟨m1, fun j x hx => ?_⟩
      have := m2 j x hx
      rw [Nat.zero_add] at this
      rw [← Array.getElem?_toList]; exact this)
  have heq : ({ gen := (O1 r).gen + 1, sz := sz, arr := true, fz := false, es := some (olds ++ ys) } : Obj) = o0 := by rw [ho0, hg']
  simp only [heq] at this
  exact ⟨led.trans this.1, this.2⟩

theorem firstCells_nil {sz : Nat} {p : Option Addr} {n m : Nat} {w : World} : (Builtin.firstCells sz 0 (.slice p n m)).run X.P w = .ok #[] w := by
  cases p <;> simp [Builtin.firstCells, loadCells, loadCellsFrom]

theorem op_append {c : Call} {s x : Operand} {sT xT e : TypeId} {d : TypeDesc} {s' x' : AOpd} {r sz : Nat} {i : TypeInfo} {z : V} (hr : Rel X T a μ) (ho : o.op = .call c) (hc : c.callee = .builtin .append)
    (hargs : c.args = #[s, x]) (htys : c.argTypes = #[sT, xT]) (hd : descT X sT = some (.slice e)) (hx : descT X xT = some d) (hdx : ∀ k, d ≠ .int k) (hn : sizeT X e = some sz) (hi : info X e = some i)
    (hz : zeroT X e = some z) (hbz : isBlank z sz = true) (h1 : trO X s = some s') (h2 : trO X x = some x')
    (hrun : (opAct E (.append r sz (limOf i.bytes) s' x')).run C ⟨T, μ.O⟩ = some (v, σ')) : σ'.T = T ∧ Done X o a μ σ'.O v := by
  simp only [opAct, run_ev] at hrun
  have hs := trO_rel hr h1 μ.O
  have hxx := trO_rel hr h2 μ.O
  have hd' : X.P.underlying sT = some (.slice e) := hd
  have hx' : X.P.underlying xT = some d := hx
  have hi' : X.P.info? e = some i := hi
  obtain ⟨ys0, us, k1, k2, k3, k4⟩ := content_sound hr.objs hxx hrun
  obtain ⟨ys, O1, g1, g2, g3, g4⟩ := frzs_sound (μ := μ) hr.objs k2 k1
  have hyl : ys.length = ys0.length := by rw [g2.length, k2.length]
  rw [← hyl] at k3 k4
  have hul : us.length = ys.length := g2.length.symm
  have hfullw : ∀ w', w'.heap = μ.w.heap → (Builtin.firstCells sz ys.length (a.eval x)).run X.P w' = .ok (flat us).toArray w' := fun w' hw' => by
    have := k4 w' hw' ys.length (Nat.le_refl _)
    rwa [take_all' (by omega)] at this
  have hfull := hfullw μ.w rfl
  have hfulld := hfullw μ.w.drew rfl
  have hs1 := VRel.mono g3 hs
  have fin : ∀ val w', (Builtin.append_ #[sT, xT] o.type #[a.eval s, a.eval x]).run X.P μ.w = .ok val w' → (execOp a.eval o).run X.P μ.w = .ok (.value val) w' := fun val w' hv => by
    refine run_builtin ho hc ?_
    simp only [builtin, hargs, htys]
    refine run_v ?_
    simpa using hv
  split at g1
  · rename_i hb
    simp only [Bool.and_eq_true, decide_eq_true_eq] at hb
    obtain ⟨hbl, hsz⟩ := hb
    obtain ⟨zv, hz1, hz2⟩ := zero_run hz μ.w
    have hzw : ∀ w, (zeroValue e).run X.P w = .ok zv w := fun w => by
      obtain ⟨zv', q1, q2⟩ := zero_run hz w
      have : zv' = zv := by
        simp only [zeroT, info, Option.bind_eq_some_iff] at hz
        obtain ⟨i0, e1, zq, e2, _⟩ := hz
        simp only [zeroValue, Sem.run_bind, run_typeInfo w e1, run_typeInfo μ.w e1, Result.andThen_ok, e2, Sem.run_pure] at q1 hz1
        injection q1 with q1 _; injection hz1 with hz1 _
        rw [← q1, ← hz1]
      rw [← this]; exact q1
    obtain ⟨hzr, hzl⟩ := constV_rel (X := X) (μ := μ) hz2
    have hzs : zv.cells.size = sz := by rw [hzr.cells_size hzl, (isBlank_lies hbz).2]
    obtain ⟨hus, hone⟩ := g2.cells_one hbl
    have hfl := flat_length hus
    -- nothing is appended
    have hnone : ys.length = 0 → ∀ (p : Option Addr) (len cap : Nat), len ≤ cap → a.eval s = .slice p len cap → (execOp a.eval o).run X.P μ.w = .ok (.value (.slice p len cap)) μ.w := fun h0 p len cap hle hp => by
      have hu0 : us = [] := by
        have : us.length = 0 := by omega
        simpa using this
      have hrr := append_fits_run (X := X) (sT := sT) (xT := xT) (sLen := len) (sCap := cap) (base := p) (ty := o.type) (w' := μ.w) hd' hx' hdx hn k3 (by omega) hfull (by
          cases p with
          | none => rfl
          | some q => simp [hu0, flat, storeCells])
      rw [h0, Nat.add_zero] at hrr
      exact fin _ _ (by rw [hp]; exact hrr)
    generalize evalOpd ⟨T, μ.O⟩ s' = sv at g1 hs hs1
    split at g1
    · -- nil
      simp only [VRel] at hs
      obtain ⟨p, hp⟩ := hs
      split at g1
      · rename_i hemp
        obtain ⟨rfl, rfl⟩ := run_done g1
        have hy0 : ys.length = 0 := by simpa [List.isEmpty_iff] using hemp
        exact ⟨rfl, .slice p 0 0, μ.w, μ.φ, .inl (hnone hy0 p 0 0 (Nat.le_refl _) hp), by simp [VRel], g3, g4⟩
      · rename_i hemp
        split at g1
        · rename_i hlim
          simp only [Act.run, Option.some.injEq, Prod.mk.injEq] at g1
          obtain ⟨rfl, rfl⟩ := g1
          have hypos : 0 < ys.length := by
            rcases Nat.eq_zero_or_pos ys.length with h0 | h0
            · exact absurd (by simpa [List.isEmpty_iff] using h0) hemp
            · exact h0
          obtain ⟨newCap, hnc, hrr⟩ := append_grow_run (X := X) (sT := sT) (xT := xT) (sLen := 0) (sCap := 0) (base := p) (ty := o.type) (old := #[]) hd' hx' hdx hn hi' hzw k3 (by omega) (by simpa using hlim) firstCells_nil hfulld
          obtain ⟨le2, ho2⟩ := grow_obj (X := X) (μ := μ) (O1 := O1) g4 (r := r) (sz := sz) (newCap := newCap) (olds := []) (ous := []) (ys := ys) (us := us) (zv := zv) (e := e)
            (o0 := { gen := (O1 r).gen + 1, sz := sz, arr := true, fz := false, es := some ys }) rfl rfl hsz (by simp [VRels]) g2 rfl hbl hzs (by simpa using hnc)
          have hfe : (flat ([] : List Value)).toArray = #[] := rfl
          simp only [hfe, List.length_nil] at le2 ho2
          refine ⟨rfl, .slice (some ⟨μ.w.heap.size, 0, none⟩) (0 + ys.length) newCap, _, upd μ.φ r ⟨μ.w.heap.size, 0, newCap⟩, .inl (fin _ _ (by rw [hp]; exact hrr)), ?_, g3.trans le2, ho2⟩
          simp only [VRel, upd_same]
          exact ⟨_, newCap, by rw [Nat.zero_add], by omega, Nat.le_refl _, fun _ => ⟨by simp, by simp⟩⟩
        · exact absurd g1 run_fail
    · -- a content
      rename_i sz' xs
      split at g1
      · rename_i hemp
        obtain ⟨rfl, rfl⟩ := run_done g1
        have hy0 : ys.length = 0 := by simpa [List.isEmpty_iff] using hemp
        have hs2 := hs
        simp only [VRel] at hs2
        obtain ⟨_, _, p, cap, _, hp, hle, _⟩ := hs2
        exact ⟨rfl, a.eval s, μ.w, μ.φ, .inl (by rw [hp]; exact hnone hy0 p _ cap hle hp), hs1, g3, g4⟩
      · exact absurd g1 run_fail
    · -- a row of the function's own
      rename_i r' g off len
      simp only [Act.run] at g1
      split at g1
      · rename_i es hes
        split at g1
        · rename_i hc
          obtain ⟨hgen, harr, hfz, hosz, hfit, hlim⟩ := hc
          simp only [VRel] at hs1
          obtain ⟨p, cap, hp, hle, hge, haddr⟩ := hs1
          obtain ⟨a1, a2⟩ := haddr hgen
          obtain ⟨q1, q2, q3, q4⟩ := g4.ok r' es hes
          simp only at q1 q2 q3 q4
          have hobj : O1 r' = { O1 r' with es := some es } := by rw [← hes]
          split at g1
          · rename_i hin
            simp only [Act.run, Option.some.injEq, Prod.mk.injEq] at g1
            obtain ⟨rfl, rfl⟩ := g1
            refine ⟨rfl, ?_⟩
            rcases Nat.eq_zero_or_pos ys.length with h0 | h0
            · -- nothing
              have hy0 : ys = [] := by simpa using h0
              have hov : overwrite es (off + len) ys = es := by simp [overwrite, hy0]
              have hO : upd O1 r' { O1 r' with es := some (overwrite es (off + len) ys) } = O1 := by
                funext q
                by_cases hq : q = r'
                · subst hq; rw [upd_same, hov]; exact hobj.symm
                · rw [upd_ne _ _ hq]
              simp only [hO]
              refine ⟨.slice p len cap, μ.w, μ.φ, .inl (hnone h0 p len cap hle hp), ?_, g3, g4⟩
              rw [h0]
              simp only [VRel]
              exact ⟨p, cap, rfl, hle, hge, haddr⟩
            · have hcap : cap ≠ 0 := by omega
              have hc0 : (μ.φ r').cap ≠ 0 := by omega
              rcases q4 with q4 | ⟨cc, T0, vs, p1, p2, p3, p4⟩
              · exact absurd q4 hc0
              · have hpe := a2.resolve_left hcap
                subst hpe
                have hvl := p3.length
                have hsp : Spells cc.toList (μ.φ r').base sz vs := by have := spells_of_row p1 p4; rwa [hosz] at this
                rw [hosz] at p2
                have hmul : (off + len + ys.length) * sz ≤ (μ.φ r').cap * sz := Nat.mul_le_mul_right _ (by omega)
                rw [Nat.add_mul] at hmul
                have hw := hsp.write (k := off + len) (us := us) (by omega) hus (by rw [len_toList cc, hul]; omega)
                have hst := run_store_row (P := X.P) (w := μ.w) (q := (μ.φ r').base + (off + len) * sz) p1 (flat us) (by rw [hfl, hul]; omega) hone
                have hrr := append_fits_run (X := X) (sT := sT) (xT := xT) (sLen := len) (sCap := cap) (ty := o.type) (base := some ⟨(μ.φ r').blk, (μ.φ r').base + off * (O1 r').sz, none⟩)
                  (w' := μ.w.setRow (μ.φ r').blk (splice cc.toList ((μ.φ r').base + (off + len) * sz) (flat us)).toArray) hd' hx' hdx hn k3 (by omega) hfull (by
                    simp only [addr_add, hosz]
                    have : (μ.φ r').base + off * sz + len * sz = (μ.φ r').base + (off + len) * sz := by rw [Nat.add_mul]; omega
                    rw [this]; exact hst)
                have hwo := write_obj (X := X) (μ := ⟨μ.w, μ.φ, O1⟩) g4 r' hes hfz p1 hc0 (c' := (splice cc.toList ((μ.φ r').base + (off + len) * sz) (flat us)).toArray)
                  (by
                    have : (splice cc.toList ((μ.φ r').base + (off + len) * sz) (flat us)).length = cc.toList.length := splice_length (by rw [len_toList cc, hfl, hul]; omega)
                    simpa using this)
                  (O1 r').gen (μ.φ r').base (μ.φ r').cap (es' := overwrite es (off + len) ys) (vs' := vs.take (off + len) ++ us ++ vs.drop (off + len + us.length)) (.inl ⟨rfl, rfl, rfl⟩) hc0
                  (by simp [overwrite]; omega)
                  (by
                    simp only [hosz] at q3 ⊢
                    have t1 := all_take (p := (isBlank · sz)) (off + len) q3
                    have t2 := all_drop (p := (isBlank · sz)) (off + len + ys.length) q3
                    simp only [overwrite, List.all_append, t1, hbl, t2, Bool.and_self])
                  (by
                    have := ((VRels.take (off + len) p3).append g2).append (VRels.drop (off + len + ys.length) p3)
                    rw [hul]; exact this)
                  (by rw [hosz]; exact p2)
                  (fun j y hy => by
                    obtain ⟨m1, m2⟩ := hw j y hy
                    refine ⟨by rw [hosz]; exact m1, fun l q hq => ?_⟩
                    have := m2 l q hq
                    simp only [hosz]
                    simpa using this)
                refine ⟨_, _, _, .inl (fin _ _ (by rw [hp]; exact hrr)), ?_, g3.trans hwo.1, hwo.2⟩
                simp only [VRel, upd_same]
                exact ⟨_, cap, rfl, by omega, by omega, fun _ => ⟨a1, .inr rfl⟩⟩
          · rename_i hin
            simp only [Act.run, Option.some.injEq, Prod.mk.injEq] at g1
            obtain ⟨rfl, rfl⟩ := g1
            refine ⟨rfl, ?_⟩
            have hypos : 0 < ys.length := by omega
            have hwl : (window es off len).length = len := by simp [window]; omega
            have hbw : (window es off len).all (isBlank · sz) = true := by
              rw [hosz] at q3; exact all_take _ (all_drop _ q3)
            by_cases hroom : len + ys.length ≤ cap
            · -- in place
              have hcap : cap ≠ 0 := by omega
              have hc0 : (μ.φ r').cap ≠ 0 := by omega
              rcases q4 with q4 | ⟨cc, T0, vs, p1, p2, p3, p4⟩
              · exact absurd q4 hc0
              · have hpe := a2.resolve_left hcap
                subst hpe
                have hvl := p3.length
                have hsp : Spells cc.toList (μ.φ r').base sz vs := by have := spells_of_row p1 p4; rwa [hosz] at this
                rw [hosz] at p2
                have hmul : (off + len + ys.length) * sz ≤ (μ.φ r').cap * sz := Nat.mul_le_mul_right _ (by omega)
                rw [Nat.add_mul] at hmul
                have hw := hsp.write (k := off + len) (us := us) (by omega) hus (by rw [len_toList cc, hul]; omega)
                have hst := run_store_row (P := X.P) (w := μ.w) (q := (μ.φ r').base + (off + len) * sz) p1 (flat us) (by rw [hfl, hul]; omega) hone
                have hrr := append_fits_run (X := X) (sT := sT) (xT := xT) (sLen := len) (sCap := cap) (ty := o.type) (base := some ⟨(μ.φ r').blk, (μ.φ r').base + off * (O1 r').sz, none⟩)
                  (w' := μ.w.setRow (μ.φ r').blk (splice cc.toList ((μ.φ r').base + (off + len) * sz) (flat us)).toArray) hd' hx' hdx hn k3 (by omega) hfull (by
                    simp only [addr_add, hosz]
                    have : (μ.φ r').base + off * sz + len * sz = (μ.φ r').base + (off + len) * sz := by rw [Nat.add_mul]; omega
                    rw [this]; exact hst)
                have hw2 : Spells (splice cc.toList ((μ.φ r').base + (off + len) * sz) (flat us)) ((μ.φ r').base + off * sz) sz ((vs.drop off).take len ++ us) := by
                  have h3 := (hw.take (off + len + us.length)).drop off
                  have e1 : (List.take (off + len + us.length) (vs.take (off + len) ++ us ++ vs.drop (off + len + us.length))).drop off = (vs.drop off).take len ++ us := by
                    have l1 : (vs.take (off + len)).length = off + len := by simp; omega
                    have l2 : (vs.take (off + len) ++ us).length = off + len + us.length := by rw [List.length_append, l1]
                    rw [← l2, List.take_left, List.drop_append_of_le_length (by omega), List.drop_take]
                    congr 2; omega
                  rwa [e1] at h3
                have hcmul : off * sz + cap * sz = (μ.φ r').cap * sz := by rw [← Nat.add_mul]; congr 1; omega
                have hwo := write_obj (X := X) (μ := ⟨μ.w, μ.φ, O1⟩) g4 r' hes hfz p1 hc0 (c' := (splice cc.toList ((μ.φ r').base + (off + len) * sz) (flat us)).toArray)
                  (by
                    have : (splice cc.toList ((μ.φ r').base + (off + len) * sz) (flat us)).length = cc.toList.length := splice_length (by rw [len_toList cc, hfl, hul]; omega)
                    simpa using this)
                  (g + 1) ((μ.φ r').base + off * sz) cap (es' := window es off len ++ ys) (vs' := (vs.drop off).take len ++ us) (.inr (by simp only; omega)) hcap
                  (by rw [List.length_append, hwl]; omega)
                  (by
                    simp only [hosz]
                    simp only [List.all_append, hbw, hbl, Bool.and_self])
                  ((VRels.take len (VRels.drop off p3)).append g2)
                  (by simp only [hosz]; omega)
                  (fun j y hy => by
                    obtain ⟨m1, m2⟩ := hw2 j y hy
                    refine ⟨by rw [hosz]; exact m1, fun l q hq => ?_⟩
                    have := m2 l q hq
                    simp only [hosz]
                    simpa using this)
                refine ⟨_, _, _, .inl (fin _ _ (by rw [hp]; exact hrr)), ?_, g3.trans hwo.1, hwo.2⟩
                simp only [VRel, upd_same]
                exact ⟨_, cap, rfl, by omega, Nat.le_refl _, fun _ => ⟨by omega, .inr (by simp [hosz])⟩⟩
            · -- a new row
              have hold : ∃ ous, VRels X ⟨μ.w, μ.φ, O1⟩ (window es off len) ous ∧ (Builtin.firstCells sz len (.slice p len cap)).run X.P μ.w.drew = .ok (flat ous).toArray μ.w.drew := by
                by_cases hcap : cap = 0
                · have hl0 : len = 0 := by omega
                  subst hl0
                  exact ⟨[], by simp [window, VRels], firstCells_nil⟩
                · rcases q4 with q4 | ⟨cc, T0, vs, p1, p2, p3, p4⟩
                  · omega
                  · have hpe := a2.resolve_left hcap
                    subst hpe
                    have hvl := p3.length
                    refine ⟨(vs.drop off).take len, VRels.take _ (VRels.drop _ p3), ?_⟩
                    have hr2 := (p4.drop off)
                    rw [hosz] at hr2 ⊢
                    have := load_flat (P := X.P) (hr2.keep (w' := μ.w.drew) rfl) (n := len) (by simp; omega)
                    simpa [Builtin.firstCells] using this
              obtain ⟨ous, ho1, ho2⟩ := hold
              obtain ⟨newCap, hnc, hrr⟩ := append_grow_run (X := X) (sT := sT) (xT := xT) (sLen := len) (sCap := cap) (base := p) (ty := o.type) hd' hx' hdx hn hi' hzw k3 (by omega) hlim ho2 hfulld
              obtain ⟨le2, ho3⟩ := grow_obj (X := X) (μ := μ) (O1 := O1) g4 (r := r') (sz := sz) (newCap := newCap) (olds := window es off len) (ous := ous) (ys := ys) (us := us) (zv := zv) (e := e)
                (o0 := { gen := g + 1, sz := sz, arr := true, fz := false, es := some (window es off len ++ ys) }) rfl (by simp only; omega) hsz ho1 g2 hbw hbl hzs (by rw [hwl]; exact hnc)
              have hO : upd O1 r' { O1 r' with gen := g + 1, es := some (window es off len ++ ys) } = upd O1 r' { gen := g + 1, sz := sz, arr := true, fz := false, es := some (window es off len ++ ys) } := by
                have : ({ O1 r' with gen := g + 1, es := some (window es off len ++ ys) } : Obj) = { gen := g + 1, sz := sz, arr := true, fz := false, es := some (window es off len ++ ys) } := by
                  rw [← hosz, ← harr, ← hfz]
                rw [this]
              simp only [hO]
              rw [hwl] at le2 ho3
              refine ⟨_, _, upd μ.φ r' ⟨μ.w.heap.size, 0, newCap⟩, .inl (fin _ _ (by rw [hp]; exact hrr)), ?_, g3.trans le2, ho3⟩
              simp only [VRel, upd_same]
              exact ⟨_, newCap, rfl, by omega, Nat.le_refl _, fun _ => ⟨by simp, by simp⟩⟩
        · exact absurd g1 run_fail
      · exact absurd g1 run_fail
    · exact absurd g1 run_fail
  · exact absurd g1 run_fail

end
end Go.AM
