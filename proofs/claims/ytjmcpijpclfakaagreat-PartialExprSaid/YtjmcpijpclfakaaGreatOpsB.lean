/-
  Texts of the proof, joined by program: AmOps8, AmOps9, AmMap, AmDisp, AmExec, AmDraw, AmCode, AmCall1, AmCall2, AmCall3, AmCall4, AmCall5, AmCall6, AmCall7. Own work.
-/
import Derived.Test.YtjmcpijpclfakaaGreatOpsA
import Derived.MapKept
import Derived.Scope
import Derived.LoopN
set_option linter.unusedSimpArgs false
set_option linter.unusedVariables false
namespace Go.AM
open Go Go.RowKit
section
variable {X : Ctx} {E : Env} {C : Oracle} {o : Oper} {a : Go.Act} {T : Nat → V} {μ : Mu} {v : V} {σ' : St}
theorem flat_bytes (bs : List UInt8) : flat (bs.map fun b => Value.int .u8 b.toNat) = bs.map fun b => Value.int .u8 b.toNat := by
 induction bs with
 | nil => rfl
 | cons b bs ih => simp only [List.map_cons, flat, List.flatMap_cons] at ih ⊢; rw [ih]; rfl
theorem VRels.bytes (bs : List UInt8) : VRels X μ (bs.map fun b => V.int .u8 b.toNat) (bs.map fun b => Value.int .u8 b.toNat) := by
 induction bs with
 | nil => simp [VRels]
 | cons b bs ih => simp only [List.map_cons, VRels]; exact ⟨by simp [VRel], ih⟩
theorem content_sound {sz : Nat} {x : V} {xv : Value} {k : List V → Act} {p : V × St} (ho : Objs X μ) (hx : VRel X μ x xv) (hrun : (content sz x k).run C ⟨T, μ.O⟩ = some p) :
  ∃ ys us, (k ys).run C ⟨T, μ.O⟩ = some p ∧ VRels X μ ys us ∧ (Builtin.lenOf xv).run X.P μ.w = .ok ys.length μ.w ∧
   ∀ w', w'.heap = μ.w.heap → ∀ n, n ≤ ys.length → (Builtin.firstCells sz n xv).run X.P w' = .ok (flat (us.take n)).toArray w' := by
 cases x <;> simp only [content] at hrun <;> try exact absurd hrun run_fail
 ·
  split at hrun
  ·rename_i s hs
   simp only [VRel] at hx
   obtain ⟨bs, rfl, rfl⟩ := hx
   refine ⟨_, _, hrun, VRels.bytes _, ?_, fun w' hw' n hn => ?_⟩
   ·simp only [Builtin.lenOf, Sem.run_pure, List.length_map]; rw [len_toList]; rfl
   ·have : (bs.extract 0 n).data.map (fun b => Value.int .u8 b.toNat) = (flat ((bs.data.toList.map fun b => Value.int .u8 b.toNat).take n)).toArray := by
     rw [← List.map_take, flat_bytes]
     apply Array.ext'
     simp [ByteArray.data_extract, Array.toList_extract, List.extract_eq_take_drop]
    simp only [Builtin.firstCells, Sem.run_pure, this]
  ·exact absurd hrun run_fail
 ·
  simp only [VRel] at hx
  obtain ⟨q, rfl⟩ := hx
  refine ⟨[], [], hrun, by simp [VRels], by simp [Builtin.lenOf], fun w' hw' n hn => ?_⟩
  have : n = 0 := by simpa using hn
  subst this
  cases q <;> simp [Builtin.firstCells, loadCells, loadCellsFrom, flat]
 ·
  split at hrun
  ·rename_i sz' xs hs
   subst hs
   simp only [VRel] at hx
   obtain ⟨_, _, q, cap, vs, rfl, _, hvs, hmem⟩ := hx
   refine ⟨xs, vs, hrun, hvs, by simp [Builtin.lenOf], fun w' hw' n hn => ?_⟩
   rcases hmem with rfl | ⟨b, q', rfl, _, _, hrow⟩
   ·have : n = 0 := by simpa using hn
    subst this
    cases q <;> simp [Builtin.firstCells, loadCells, loadCellsFrom, flat]
   ·simp only [Builtin.firstCells]
    exact load_flat (hrow.keep (by rw [hw'])) (by rw [← hvs.length]; exact hn)
  ·exact absurd hrun run_fail
 ·
  rename_i r g off len
  simp only [Act.run] at hrun
  split at hrun
  ·rename_i es hes
   split at hrun
   ·rename_i hc
    obtain ⟨hc1, hc2, hc3⟩ := hc
    simp only [VRel] at hx
    obtain ⟨q, cap, rfl, hle, _, haddr⟩ := hx
    obtain ⟨k0, k1, k2⟩ := haddr hc1
    have hwl : (window es off len).length = len := by simp [window]; omega
    obtain ⟨q1, q2, q3, q4⟩ := ho.row r es hes k0
    by_cases hcap : cap = 0
    ·have hl0 : len = 0 := by omega
     subst hl0
     refine ⟨_, [], hrun, by simp [window, VRels], by simp [Builtin.lenOf, window], fun w' hw' n hn => ?_⟩
     have : n = 0 := by simpa [window] using hn
     subst this
     cases q <;> simp [Builtin.firstCells, loadCells, loadCellsFrom, flat]
    ·rcases q4 with q4 | ⟨cc, TT, vs, p1, p2, p3, p4⟩
     ·omega
     ·have hqe := k2.resolve_left hcap
      subst hqe
      refine ⟨_, (vs.drop off).take len, hrun, VRels.take _ (VRels.drop _ p3), by simp only [Builtin.lenOf, Sem.run_pure, hwl], fun w' hw' n hn => ?_⟩
      simp only [Builtin.firstCells]
      have hr2 := (p4.drop off).take len
      rw [hc2] at hr2
      rw [hc2]
      refine load_flat (hr2.keep (by rw [hw'])) ?_
      rw [hwl] at hn
      have := p3.length
      simp; omega
   ·exact absurd hrun run_fail
  ·exact absurd hrun run_fail
theorem growBy_le (need : Nat) : ∀ (k c : Nat), c ≤ need + (need + 768) / 4 → Builtin.growBy need k c ≤ need + (need + 768) / 4
 | 0, c, h => h
 | k + 1, c, h => by
  simp only [Builtin.growBy]
  split
  ·exact h
  ·exact growBy_le need k _ (by omega)
theorem nextcap_le {need old : Nat} (h : old < need) : Builtin.nextslicecap need old ≤ 2 * need + 192 := by
 unfold Builtin.nextslicecap
 split
 ·omega
 ·split
  ·omega
  ·have := growBy_le need 4 old (by omega)
   omega
theorem lim_room {need old bytes : Nat} (h : old < need) (hl : need ≤ limOf bytes) : ¬ Builtin.nextslicecap need old * bytes > 2 ^ 48 ∧ ¬ ((need : Int) > IntKind.i64.max) := by
 unfold limOf at hl
 have h1 := nextcap_le h
 have h2 : need + 200 ≤ 140737488355328 / (bytes + 1) := by omega
 have h3 : (need + 200) * (bytes + 1) ≤ 140737488355328 := (Nat.le_div_iff_mul_le (by omega)).1 h2
 have h4 : Builtin.nextslicecap need old * bytes ≤ (2 * (need + 200)) * (bytes + 1) := Nat.mul_le_mul (by omega) (by omega)
 have h5 : (2 * (need + 200)) * (bytes + 1) = 2 * ((need + 200) * (bytes + 1)) := by rw [Nat.mul_assoc]
 have h6 : (2 : Nat) ^ 48 = 281474976710656 := by decide
 have h7 : need + 200 ≤ (need + 200) * (bytes + 1) := Nat.le_mul_of_pos_right _ (by omega)
 have h8 : IntKind.i64.max = 9223372036854775807 := by decide
 refine ⟨by omega, by rw [h8]; omega⟩
theorem append_fits_run {sT xT e : TypeId} {d : TypeDesc} {sz n sLen sCap : Nat} {base : Option Addr} {xv : Value} {new : Array Value} {w w' : World} {ty : TypeId}
  (hd : X.P.underlying sT = some (.slice e)) (hx : X.P.underlying xT = some d) (hdx : ∀ k, d ≠ .int k) (hn : sizeT X e = some sz) (hl : (Builtin.lenOf xv).run X.P w = .ok n w)
  (hfit : sLen + n ≤ sCap) (hnew : (Builtin.firstCells sz n xv).run X.P w = .ok new w)
  (hst : match base with | some p => (storeCells (p.add (sLen * sz)) new.toList).run X.P w = .ok () w' | none => w' = w) :
  (Builtin.append_ #[sT, xT] ty #[.slice base sLen sCap, xv]).run X.P w = .ok (.slice base (sLen + n) sCap) w' := by
 have hm : (match d with | .int _ => true | _ => false) = false := by
  cases d <;> first | rfl | exact absurd rfl (hdx _)
 have hg0 : (#[sT, xT] : Array TypeId)[0]? = some sT := rfl
 have hg1 : (#[sT, xT] : Array TypeId)[1]? = some xT := rfl
 have ha0 : (#[Value.slice base sLen sCap, xv] : Array Value)[0]? = some (.slice base sLen sCap) := rfl
 have ha1 : (#[Value.slice base sLen sCap, xv] : Array Value)[1]? = some xv := rfl
 simp only [Builtin.append_, hg0, hg1, ha0, ha1, Sem.run_bind, run_underlying hd, Result.andThen_ok, run_sizeT hn, run_underlying hx, Sem.run_pure, hm, Bool.false_eq_true, if_false, hl]
 rw [if_pos hfit]
 simp only [Bool.not_false, if_true, Sem.run_bind, hnew, Result.andThen_ok]
 cases base with
 | none => simp only at hst; subst hst; simp
 | some p => simp only at hst; simp [Sem.run_bind, hst]
theorem append_grow_run {sT xT e : TypeId} {d : TypeDesc} {sz n sLen sCap : Nat} {base : Option Addr} {xv zv : Value} {old new : Array Value} {w : World} {ty : TypeId} {i : TypeInfo}
  (hd : X.P.underlying sT = some (.slice e)) (hx : X.P.underlying xT = some d) (hdx : ∀ k, d ≠ .int k) (hn : sizeT X e = some sz) (hi : X.P.info? e = some i)
  (hz : ∀ w, (zeroValue e).run X.P w = .ok zv w) (hl : (Builtin.lenOf xv).run X.P w = .ok n w) (hgrow : sCap < sLen + n) (hlim : sLen + n ≤ limOf i.bytes)
  (hold : (Builtin.firstCells sz sLen (.slice base sLen sCap)).run X.P w.drew = .ok old w.drew) (hnew : (Builtin.firstCells sz n xv).run X.P w.drew = .ok new w.drew) :
  ∃ newCap, sLen + n ≤ newCap ∧ (Builtin.append_ #[sT, xT] ty #[.slice base sLen sCap, xv]).run X.P w =
   .ok (.slice (some ⟨w.heap.size, 0, none⟩) (sLen + n) newCap) (w.drew.alloc (.cells (old ++ new ++ Builtin.zeroCells zv.cells (newCap - (sLen + n))) e)) := by
 have hm : (match d with | .int _ => true | _ => false) = false := by
  cases d <;> first | rfl | exact absurd rfl (hdx _)
 have hg0 : (#[sT, xT] : Array TypeId)[0]? = some sT := rfl
 have hg1 : (#[sT, xT] : Array TypeId)[1]? = some xT := rfl
 have ha0 : (#[Value.slice base sLen sCap, xv] : Array Value)[0]? = some (.slice base sLen sCap) := rfl
 have ha1 : (#[Value.slice base sLen sCap, xv] : Array Value)[1]? = some xv := rfl
 obtain ⟨r1, r2⟩ := lim_room hgrow hlim
 refine ⟨(Question.appendCap (sLen + n) sCap e).cut (w.tape w.drawn (.appendCap (sLen + n) sCap e)), by simp [Question.cut], ?_⟩
 simp only [Builtin.append_, hg0, hg1, ha0, ha1, Sem.run_bind, run_underlying hd, Result.andThen_ok, run_sizeT hn, run_underlying hx, Sem.run_pure, hm, Bool.false_eq_true, if_false, hl]
 rw [if_neg (by omega)]
 simp only [Sem.run_bind, run_typeInfo w hi, Result.andThen_ok]
 have c2 : ¬ (((sLen + n : Nat) : Int) > IntKind.i64.max ∧ (False ∨ i.bytes = 0)) := fun h => r2 h.1
 rw [if_neg c2]
 simp only [Sem.run_bind, run_typeInfo w hi, Result.andThen_ok]
 rw [if_neg r1]
 have hch : (choose (.appendCap (sLen + n) sCap e)).run X.P w = .ok ((Question.appendCap (sLen + n) sCap e).cut (w.tape w.drawn (.appendCap (sLen + n) sCap e))) w.drew := by
  rw [run_choose]; simp only [Question.forced, Bool.false_eq_true, if_false]; rfl
 simp only [Sem.run_bind, hch, Result.andThen_ok, run_typeInfo w.drew hi, run_askRoom, hold, Bool.not_false, if_true, hnew, hz, Sem.run_pure, newRow, run_newObj]
 rfl
theorem spells_flat {us rest : List Value} {sz : Nat} (h : ∀ u ∈ us, u.cells.size = sz) : Spells (flat us ++ rest) 0 sz us := by
 intro i v hv
 have hm := h v (List.mem_of_getElem? hv)
 refine ⟨hm, fun j x hx => ?_⟩
 have := flat_get h hv hx
 have hlt : i * sz + j < (flat us).length := (List.getElem?_eq_some_iff.1 this).1
 rw [Nat.zero_add, List.getElem?_append_left hlt]; exact this
theorem flat_append (us vs : List Value) : flat (us ++ vs) = flat us ++ flat vs := by simp [flat]
theorem zeroCells_size {zv : Value} {sz n : Nat} (h : zv.cells.size = sz) : (Builtin.zeroCells zv.cells n).size = n * sz := by simp [Builtin.zeroCells, h]
theorem take_all' {α : Type} {n : Nat} {l : List α} (h : l.length ≤ n) : l.take n = l := List.take_of_length_le h
theorem grow_obj {O1 : Nat → Obj} (hO : Objs X ⟨μ.w, μ.φ, O1⟩) {r sz newCap : Nat} {olds ys : List V} {ous us : List Value} {zv : Value} {e : TypeId} {o0 : Obj}
  (ho0 : o0 = { gen := o0.gen, sz := sz, arr := true, fz := false, es := some (olds ++ ys) }) (hg' : o0.gen = (O1 r).gen + 1)
  (hsz : 0 < sz) (h1 : VRels X ⟨μ.w, μ.φ, O1⟩ olds ous) (h2 : VRels X ⟨μ.w, μ.φ, O1⟩ ys us) (b1 : olds.all (isBlank · sz) = true) (b2 : ys.all (isBlank · sz) = true)
  (hz : zv.cells.size = sz) (hcap : olds.length + ys.length ≤ newCap) :
  let μ' : Mu := ⟨μ.w.drew.alloc (.cells ((flat ous).toArray ++ (flat us).toArray ++ Builtin.zeroCells zv.cells (newCap - (olds.length + ys.length))) e), upd μ.φ r ⟨μ.w.heap.size, 0, newCap⟩, upd O1 r o0⟩
  Le ⟨μ.w, μ.φ, O1⟩ μ' ∧ Objs X μ' := by
 intro μ'
 obtain ⟨led, hod⟩ := Le.drew (X := X) (μ := ⟨μ.w, μ.φ, O1⟩) hO
 have hrel : VRels X ⟨μ.w.drew, μ.φ, O1⟩ (olds ++ ys) (ous ++ us) := VRels.mono led (h1.append h2)
 have hs : ∀ u ∈ ous ++ us, u.cells.size = sz := ((h1.append h2).cells_one (sz := sz) (by simp only [List.all_append, b1, b2, Bool.and_self])).1
 have hl1 := h1.length
 have hl2 := h2.length
 have hfl := flat_length hs
 have hcl : ((flat ous).toArray ++ (flat us).toArray ++ Builtin.zeroCells zv.cells (newCap - (olds.length + ys.length))).toList = flat (ous ++ us) ++ (Builtin.zeroCells zv.cells (newCap - (olds.length + ys.length))).toList := by
  simp [flat_append]
 have hcs : newCap * sz ≤ ((flat ous).toArray ++ (flat us).toArray ++ Builtin.zeroCells zv.cells (newCap - (olds.length + ys.length))).size := by
  rw [← len_toList, hcl, List.length_append, hfl, len_toList (Builtin.zeroCells _ _), zeroCells_size hz, ← Nat.add_mul]
  apply Nat.mul_le_mul_right
  rw [List.length_append]; omega
 have := new_obj (X := X) (μ := ⟨μ.w.drew, μ.φ, O1⟩) hod r sz newCap true (es := olds ++ ys) (vs := ous ++ us) (c := (flat ous).toArray ++ (flat us).toArray ++ Builtin.zeroCells zv.cells (newCap - (olds.length + ys.length))) e hsz
  (by simp; omega) (by simp only [List.all_append, b1, b2, Bool.and_self]) hrel hcs (fun i u hu => by
   have hsp := spells_flat (rest := (Builtin.zeroCells zv.cells (newCap - (olds.length + ys.length))).toList) hs
   rw [← hcl] at hsp
   obtain ⟨m1, m2⟩ := hsp i u hu
   refine ⟨m1, fun j x hx => ?_⟩
   have := m2 j x hx
   rw [Nat.zero_add] at this
   rw [← Array.getElem?_toList]; exact this)
 have heq : ({ gen := (O1 r).gen + 1, sz := sz, arr := true, fz := false, es := some (olds ++ ys) } : Obj) = o0 := by rw [ho0, hg']
 simp only [heq] at this
 exact ⟨led.trans this.1, this.2⟩
theorem firstCells_nil {sz : Nat} {p : Option Addr} {n m : Nat} {w : World} : (Builtin.firstCells sz 0 (.slice p n m)).run X.P w = .ok #[] w := by
 cases p <;> simp [Builtin.firstCells, loadCells, loadCellsFrom]
theorem op_append_core (keep : Bool) {c : Call} {s x : Operand} {sT xT e : TypeId} {d : TypeDesc} {s' x' : AOpd} {r sz : Nat} {i : TypeInfo} {z : V} (hr : Rel X T a μ) (ho : o.op = .call c) (hc : c.callee = .builtin .append)
  (hargs : c.args = #[s, x]) (htys : c.argTypes = #[sT, xT]) (hd : descT X sT = some (.slice e)) (hx : descT X xT = some d) (hdx : ∀ k, d ≠ .int k) (hn : sizeT X e = some sz) (hi : info X e = some i)
  (hz : zeroT X e = some z) (hbz : isBlank z sz = true) (h1 : trO X s = some s') (h2 : trO X x = some x')
  (hrun : (content sz (evalOpd ⟨T, μ.O⟩ x') fun ys => match keep with | true => apAct r sz (limOf i.bytes) (evalOpd ⟨T, μ.O⟩ s') ys | false => frzs ys fun ys => apAct r sz (limOf i.bytes) (evalOpd ⟨T, μ.O⟩ s') ys).run C ⟨T, μ.O⟩ = some (v, σ')) : σ'.T = T ∧ Done X o a μ σ'.O v := by
 have hs := trO_rel hr h1 μ.O
 have hxx := trO_rel hr h2 μ.O
 have hd' : X.P.underlying sT = some (.slice e) := hd
 have hx' : X.P.underlying xT = some d := hx
 have hi' : X.P.info? e = some i := hi
 obtain ⟨ys0, us, k1, k2, k3, k4⟩ := content_sound hr.objs hxx hrun
 have hfz : ∃ ys O1, (apAct r sz (limOf i.bytes) (evalOpd ⟨T, μ.O⟩ s') ys).run C ⟨T, O1⟩ = some (v, σ') ∧ VRels X ⟨μ.w, μ.φ, O1⟩ ys us ∧ Le μ ⟨μ.w, μ.φ, O1⟩ ∧ Objs X ⟨μ.w, μ.φ, O1⟩ := by
  cases keep with
  | true => exact ⟨ys0, μ.O, k1, k2, Le.refl μ, hr.objs⟩
  | false => exact frzs_sound (μ := μ) hr.objs k2 k1
 obtain ⟨ys, O1, g1, g2, g3, g4⟩ := hfz
 unfold apAct at g1
 have hyl : ys.length = ys0.length := by rw [g2.length, k2.length]
 rw [← hyl] at k3 k4
 have hul : us.length = ys.length := g2.length.symm
 have hfullw : ∀ w', w'.heap = μ.w.heap → (Builtin.firstCells sz ys.length (a.eval x)).run X.P w' = .ok (flat us).toArray w' := fun w' hw' => by
  have := k4 w' hw' ys.length (Nat.le_refl _)
  rwa [take_all' (by omega)] at this
 have hfull := hfullw μ.w rfl
 have hfulld := hfullw μ.w.drew rfl
 have hs1 := VRel.mono g3 hs
 have fin : ∀ val w', (Builtin.append_ #[sT, xT] o.type #[a.eval s, a.eval x]).run X.P μ.w = .ok val w' → (execOp a.eval o).run X.P μ.w = .ok (.value val) w' := fun val w' hv => by
  refine run_builtin ho hc ?_
  simp only [builtin, hargs, htys]
  refine run_v ?_
  simpa using hv
 split at g1
 ·rename_i hb
  simp only [Bool.and_eq_true, decide_eq_true_eq] at hb
  obtain ⟨hbl, hsz⟩ := hb
  obtain ⟨zv, hz1, hz2⟩ := zero_run hz μ.w
  have hzw : ∀ w, (zeroValue e).run X.P w = .ok zv w := fun w => by
   obtain ⟨zv', q1, q2⟩ := zero_run hz w
   have : zv' = zv := by
    simp only [zeroT, info, Option.bind_eq_some_iff] at hz
    obtain ⟨i0, e1, zq, e2, _⟩ := hz
    simp only [zeroValue, Sem.run_bind, run_typeInfo w e1, run_typeInfo μ.w e1, Result.andThen_ok, e2, Sem.run_pure] at q1 hz1
    injection q1 with q1 _; injection hz1 with hz1 _
    rw [← q1, ← hz1]
   rw [← this]; exact q1
  obtain ⟨hzr, hzl⟩ := constV_rel (X := X) (μ := μ) hz2
  have hzs : zv.cells.size = sz := by rw [hzr.cells_size hzl, (isBlank_lies hbz).2]
  obtain ⟨hus, hone⟩ := g2.cells_one hbl
  have hfl := flat_length hus
  have hnone : ys.length = 0 → ∀ (p : Option Addr) (len cap : Nat), len ≤ cap → a.eval s = .slice p len cap → (execOp a.eval o).run X.P μ.w = .ok (.value (.slice p len cap)) μ.w := fun h0 p len cap hle hp => by
   have hu0 : us = [] := by
    have : us.length = 0 := by omega
    simpa using this
   have hrr := append_fits_run (X := X) (sT := sT) (xT := xT) (sLen := len) (sCap := cap) (base := p) (ty := o.type) (w' := μ.w) hd' hx' hdx hn k3 (by omega) hfull (by
     cases p with
     | none => rfl
     | some q => simp [hu0, flat, storeCells])
   rw [h0, Nat.add_zero] at hrr
   exact fin _ _ (by rw [hp]; exact hrr)
  generalize evalOpd ⟨T, μ.O⟩ s' = sv at g1 hs hs1
  split at g1
  ·
   simp only [VRel] at hs
   obtain ⟨p, hp⟩ := hs
   split at g1
   ·rename_i hemp
    obtain ⟨rfl, rfl⟩ := run_done g1
    have hy0 : ys.length = 0 := by simpa [List.isEmpty_iff] using hemp
    exact ⟨rfl, .slice p 0 0, μ.w, μ.φ, .inl (hnone hy0 p 0 0 (Nat.le_refl _) hp), by simp [VRel], g3, g4⟩
   ·rename_i hemp
    split at g1
    ·rename_i hlim
     simp only [Act.run, Option.some.injEq, Prod.mk.injEq] at g1
     obtain ⟨rfl, rfl⟩ := g1
     have hypos : 0 < ys.length := by
      rcases Nat.eq_zero_or_pos ys.length with h0 | h0
      ·exact absurd (by simpa [List.isEmpty_iff] using h0) hemp
      ·exact h0
     obtain ⟨newCap, hnc, hrr⟩ := append_grow_run (X := X) (sT := sT) (xT := xT) (sLen := 0) (sCap := 0) (base := p) (ty := o.type) (old := #[]) hd' hx' hdx hn hi' hzw k3 (by omega) (by simpa using hlim) firstCells_nil hfulld
     obtain ⟨le2, ho2⟩ := grow_obj (X := X) (μ := μ) (O1 := O1) g4 (r := r) (sz := sz) (newCap := newCap) (olds := []) (ous := []) (ys := ys) (us := us) (zv := zv) (e := e)
      (o0 := { gen := (O1 r).gen + 1, sz := sz, arr := true, fz := false, es := some ys }) rfl rfl hsz (by simp [VRels]) g2 rfl hbl hzs (by simpa using hnc)
     have hfe : (flat ([] : List Value)).toArray = #[] := rfl
     simp only [hfe, List.length_nil] at le2 ho2
     refine ⟨rfl, .slice (some ⟨μ.w.heap.size, 0, none⟩) (0 + ys.length) newCap, _, upd μ.φ r ⟨μ.w.heap.size, 0, newCap⟩, .inl (fin _ _ (by rw [hp]; exact hrr)), ?_, g3.trans le2, ho2⟩
     simp only [VRel, upd_same]
     exact ⟨_, newCap, by rw [Nat.zero_add], by omega, Nat.le_refl _, fun _ => ⟨by omega, by simp, by simp⟩⟩
    ·exact absurd g1 run_fail
  ·
   rename_i sz' xs
   split at g1
   ·rename_i hemp
    obtain ⟨rfl, rfl⟩ := run_done g1
    have hy0 : ys.length = 0 := by simpa [List.isEmpty_iff] using hemp
    have hs2 := hs
    simp only [VRel] at hs2
    obtain ⟨_, _, p, cap, _, hp, hle, _⟩ := hs2
    exact ⟨rfl, a.eval s, μ.w, μ.φ, .inl (by rw [hp]; exact hnone hy0 p _ cap hle hp), hs1, g3, g4⟩
   ·exact absurd g1 run_fail
  ·
   rename_i r' g off len
   simp only [Act.run] at g1
   split at g1
   ·rename_i es hes
    split at g1
    ·rename_i hc
     obtain ⟨hgen, harr, hfz, hosz, hfit, hlim⟩ := hc
     simp only [VRel] at hs1
     obtain ⟨p, cap, hp, hle, hge, haddr⟩ := hs1
     obtain ⟨a0, a1, a2⟩ := haddr hgen
     obtain ⟨q1, q2, q3, q4⟩ := g4.row r' es hes a0
     simp only at q1 q2 q3 q4
     have hobj : O1 r' = { O1 r' with es := some es } := by rw [← hes]
     split at g1
     ·rename_i hin
      simp only [Act.run, Option.some.injEq, Prod.mk.injEq] at g1
      obtain ⟨rfl, rfl⟩ := g1
      refine ⟨rfl, ?_⟩
      rcases Nat.eq_zero_or_pos ys.length with h0 | h0
      ·
       have hy0 : ys = [] := by simpa using h0
       have hov : overwrite es (off + len) ys = es := by simp [overwrite, hy0]
       have hO : upd O1 r' { O1 r' with es := some (overwrite es (off + len) ys) } = O1 := by
        funext q
        by_cases hq : q = r'
        ·subst hq; rw [upd_same, hov]; exact hobj.symm
        ·rw [upd_ne _ _ hq]
       simp only [hO]
       refine ⟨.slice p len cap, μ.w, μ.φ, .inl (hnone h0 p len cap hle hp), ?_, g3, g4⟩
       rw [h0]
       simp only [VRel]
       exact ⟨p, cap, rfl, hle, hge, haddr⟩
      ·have hcap : cap ≠ 0 := by omega
       have hc0 : (μ.φ r').cap ≠ 0 := by omega
       rcases q4 with q4 | ⟨cc, T0, vs, p1, p2, p3, p4⟩
       ·exact absurd q4 hc0
       ·have hpe := a2.resolve_left hcap
        subst hpe
        have hvl := p3.length
        have hsp : Spells cc.toList (μ.φ r').base sz vs := by have := spells_of_row p1 p4; rwa [hosz] at this
        rw [hosz] at p2
        have hmul : (off + len + ys.length) * sz ≤ (μ.φ r').cap * sz := Nat.mul_le_mul_right _ (by omega)
        rw [Nat.add_mul] at hmul
        have hw := hsp.write (k := off + len) (us := us) (by omega) hus (by rw [len_toList cc, hul]; omega)
        have hst := run_store_row (P := X.P) (w := μ.w) (q := (μ.φ r').base + (off + len) * sz) p1 (flat us) (by rw [hfl, hul]; omega) hone
        have hrr := append_fits_run (X := X) (sT := sT) (xT := xT) (sLen := len) (sCap := cap) (ty := o.type) (base := some ⟨(μ.φ r').blk, (μ.φ r').base + off * (O1 r').sz, none⟩)
         (w' := μ.w.setRow (μ.φ r').blk (splice cc.toList ((μ.φ r').base + (off + len) * sz) (flat us)).toArray) hd' hx' hdx hn k3 (by omega) hfull (by
          simp only [addr_add, hosz]
          have : (μ.φ r').base + off * sz + len * sz = (μ.φ r').base + (off + len) * sz := by rw [Nat.add_mul]; omega
          rw [this]; exact hst)
        have hwo := write_obj (X := X) (μ := ⟨μ.w, μ.φ, O1⟩) g4 r' hes hfz p1 hc0 (c' := (splice cc.toList ((μ.φ r').base + (off + len) * sz) (flat us)).toArray)
         (by
          have : (splice cc.toList ((μ.φ r').base + (off + len) * sz) (flat us)).length = cc.toList.length := splice_length (by rw [len_toList cc, hfl, hul]; omega)
          simpa using this)
         (O1 r').gen (μ.φ r').base (μ.φ r').cap (es' := overwrite es (off + len) ys) (vs' := vs.take (off + len) ++ us ++ vs.drop (off + len + us.length)) (.inl ⟨rfl, rfl, rfl⟩) hc0
         (by simp [overwrite]; omega)
         (by
          simp only [hosz] at q3 ⊢
          have t1 := all_takeO (p := (isBlank · sz)) (off + len) q3
          have t2 := all_drop (p := (isBlank · sz)) (off + len + ys.length) q3
          simp only [overwrite, List.all_append, t1, hbl, t2, Bool.and_self])
         (by
          have := ((VRels.take (off + len) p3).append g2).append (VRels.drop (off + len + ys.length) p3)
          rw [hul]; exact this)
         (by rw [hosz]; exact p2)
         (fun j y hy => by
          obtain ⟨m1, m2⟩ := hw j y hy
          refine ⟨by rw [hosz]; exact m1, fun l q hq => ?_⟩
          have := m2 l q hq
          simp only [hosz]
          simpa using this)
        refine ⟨_, _, _, .inl (fin _ _ (by rw [hp]; exact hrr)), ?_, g3.trans hwo.1, hwo.2⟩
        simp only [VRel, upd_same]
        exact ⟨_, cap, rfl, by omega, by omega, fun _ => ⟨a0, a1, .inr rfl⟩⟩
     ·rename_i hin
      simp only [Act.run, Option.some.injEq, Prod.mk.injEq] at g1
      obtain ⟨rfl, rfl⟩ := g1
      refine ⟨rfl, ?_⟩
      have hypos : 0 < ys.length := by omega
      have hwl : (window es off len).length = len := by simp [window]; omega
      have hbw : (window es off len).all (isBlank · sz) = true := by
       rw [hosz] at q3; exact all_takeO _ (all_drop _ q3)
      by_cases hroom : len + ys.length ≤ cap
      ·
       have hcap : cap ≠ 0 := by omega
       have hc0 : (μ.φ r').cap ≠ 0 := by omega
       rcases q4 with q4 | ⟨cc, T0, vs, p1, p2, p3, p4⟩
       ·exact absurd q4 hc0
       ·have hpe := a2.resolve_left hcap
        subst hpe
        have hvl := p3.length
        have hsp : Spells cc.toList (μ.φ r').base sz vs := by have := spells_of_row p1 p4; rwa [hosz] at this
        rw [hosz] at p2
        have hmul : (off + len + ys.length) * sz ≤ (μ.φ r').cap * sz := Nat.mul_le_mul_right _ (by omega)
        rw [Nat.add_mul] at hmul
        have hw := hsp.write (k := off + len) (us := us) (by omega) hus (by rw [len_toList cc, hul]; omega)
        have hst := run_store_row (P := X.P) (w := μ.w) (q := (μ.φ r').base + (off + len) * sz) p1 (flat us) (by rw [hfl, hul]; omega) hone
        have hrr := append_fits_run (X := X) (sT := sT) (xT := xT) (sLen := len) (sCap := cap) (ty := o.type) (base := some ⟨(μ.φ r').blk, (μ.φ r').base + off * (O1 r').sz, none⟩)
         (w' := μ.w.setRow (μ.φ r').blk (splice cc.toList ((μ.φ r').base + (off + len) * sz) (flat us)).toArray) hd' hx' hdx hn k3 (by omega) hfull (by
          simp only [addr_add, hosz]
          have : (μ.φ r').base + off * sz + len * sz = (μ.φ r').base + (off + len) * sz := by rw [Nat.add_mul]; omega
          rw [this]; exact hst)
        have hw2 : Spells (splice cc.toList ((μ.φ r').base + (off + len) * sz) (flat us)) ((μ.φ r').base + off * sz) sz ((vs.drop off).take len ++ us) := by
         have h3 := (hw.take (off + len + us.length)).drop off
         have e1 : (List.take (off + len + us.length) (vs.take (off + len) ++ us ++ vs.drop (off + len + us.length))).drop off = (vs.drop off).take len ++ us := by
          have l1 : (vs.take (off + len)).length = off + len := by simp; omega
          have l2 : (vs.take (off + len) ++ us).length = off + len + us.length := by rw [List.length_append, l1]
          rw [← l2, List.take_left, List.drop_append_of_le_length (by omega), List.drop_take]
          congr 2; omega
         rwa [e1] at h3
        have hcmul : off * sz + cap * sz = (μ.φ r').cap * sz := by rw [← Nat.add_mul]; congr 1; omega
        have hwo := write_obj (X := X) (μ := ⟨μ.w, μ.φ, O1⟩) g4 r' hes hfz p1 hc0 (c' := (splice cc.toList ((μ.φ r').base + (off + len) * sz) (flat us)).toArray)
         (by
          have : (splice cc.toList ((μ.φ r').base + (off + len) * sz) (flat us)).length = cc.toList.length := splice_length (by rw [len_toList cc, hfl, hul]; omega)
          simpa using this)
         (g + 1) ((μ.φ r').base + off * sz) cap (es' := window es off len ++ ys) (vs' := (vs.drop off).take len ++ us) (.inr (by simp only; omega)) hcap
         (by rw [List.length_append, hwl]; omega)
         (by
          simp only [hosz]
          simp only [List.all_append, hbw, hbl, Bool.and_self])
         ((VRels.take len (VRels.drop off p3)).append g2)
         (by simp only [hosz]; omega)
         (fun j y hy => by
          obtain ⟨m1, m2⟩ := hw2 j y hy
          refine ⟨by rw [hosz]; exact m1, fun l q hq => ?_⟩
          have := m2 l q hq
          simp only [hosz]
          simpa using this)
        refine ⟨_, _, _, .inl (fin _ _ (by rw [hp]; exact hrr)), ?_, g3.trans hwo.1, hwo.2⟩
        simp only [VRel, upd_same]
        exact ⟨_, cap, rfl, by omega, Nat.le_refl _, fun _ => ⟨a0, by omega, .inr (by simp [hosz])⟩⟩
      ·
       have hold : ∃ ous, VRels X ⟨μ.w, μ.φ, O1⟩ (window es off len) ous ∧ (Builtin.firstCells sz len (.slice p len cap)).run X.P μ.w.drew = .ok (flat ous).toArray μ.w.drew := by
        by_cases hcap : cap = 0
        ·have hl0 : len = 0 := by omega
         subst hl0
         exact ⟨[], by simp [window, VRels], firstCells_nil⟩
        ·rcases q4 with q4 | ⟨cc, T0, vs, p1, p2, p3, p4⟩
         ·omega
         ·have hpe := a2.resolve_left hcap
          subst hpe
          have hvl := p3.length
          refine ⟨(vs.drop off).take len, VRels.take _ (VRels.drop _ p3), ?_⟩
          have hr2 := (p4.drop off)
          rw [hosz] at hr2 ⊢
          have := load_flat (P := X.P) (hr2.keep (w' := μ.w.drew) rfl) (n := len) (by simp; omega)
          simpa [Builtin.firstCells] using this
       obtain ⟨ous, ho1, ho2⟩ := hold
       obtain ⟨newCap, hnc, hrr⟩ := append_grow_run (X := X) (sT := sT) (xT := xT) (sLen := len) (sCap := cap) (base := p) (ty := o.type) hd' hx' hdx hn hi' hzw k3 (by omega) hlim ho2 hfulld
       obtain ⟨le2, ho3⟩ := grow_obj (X := X) (μ := μ) (O1 := O1) g4 (r := r') (sz := sz) (newCap := newCap) (olds := window es off len) (ous := ous) (ys := ys) (us := us) (zv := zv) (e := e)
        (o0 := { gen := g + 1, sz := sz, arr := true, fz := false, es := some (window es off len ++ ys) }) rfl (by simp only; omega) hsz ho1 g2 hbw hbl hzs (by rw [hwl]; exact hnc)
       have hO : upd O1 r' { O1 r' with gen := g + 1, es := some (window es off len ++ ys) } = upd O1 r' { gen := g + 1, sz := sz, arr := true, fz := false, es := some (window es off len ++ ys) } := by
        have : ({ O1 r' with gen := g + 1, es := some (window es off len ++ ys) } : Obj) = { gen := g + 1, sz := sz, arr := true, fz := false, es := some (window es off len ++ ys) } := by
         rw [← hosz, ← harr, ← hfz]
        rw [this]
       simp only [hO]
       rw [hwl] at le2 ho3
       refine ⟨_, _, upd μ.φ r' ⟨μ.w.heap.size, 0, newCap⟩, .inl (fin _ _ (by rw [hp]; exact hrr)), ?_, g3.trans le2, ho3⟩
       simp only [VRel, upd_same]
       exact ⟨_, newCap, rfl, by omega, Nat.le_refl _, fun _ => ⟨by omega, by simp, by simp⟩⟩
    ·exact absurd g1 run_fail
   ·exact absurd g1 run_fail
  ·exact absurd g1 run_fail
 ·exact absurd g1 run_fail
theorem op_append {c : Call} {s x : Operand} {sT xT e : TypeId} {d : TypeDesc} {s' x' : AOpd} {r sz : Nat} {i : TypeInfo} {z : V} (hr : Rel X T a μ) (ho : o.op = .call c) (hc : c.callee = .builtin .append)
  (hargs : c.args = #[s, x]) (htys : c.argTypes = #[sT, xT]) (hd : descT X sT = some (.slice e)) (hx : descT X xT = some d) (hdx : ∀ k, d ≠ .int k) (hn : sizeT X e = some sz) (hi : info X e = some i)
  (hz : zeroT X e = some z) (hbz : isBlank z sz = true) (h1 : trO X s = some s') (h2 : trO X x = some x')
  (hrun : (opAct E (.append r sz (limOf i.bytes) s' x')).run C ⟨T, μ.O⟩ = some (v, σ')) : σ'.T = T ∧ Done X o a μ σ'.O v := by
 refine op_append_core (C := C) (v := v) false (r := r) hr ho hc hargs htys hd hx hdx hn hi hz hbz h1 h2 ?_
 simp only [opAct, run_ev] at hrun
 exact hrun
theorem op_appendK {c : Call} {s x : Operand} {sT xT e : TypeId} {d : TypeDesc} {s' x' : AOpd} {r sz : Nat} {i : TypeInfo} {z : V} (hr : Rel X T a μ) (ho : o.op = .call c) (hc : c.callee = .builtin .append)
  (hargs : c.args = #[s, x]) (htys : c.argTypes = #[sT, xT]) (hd : descT X sT = some (.slice e)) (hx : descT X xT = some d) (hdx : ∀ k, d ≠ .int k) (hn : sizeT X e = some sz) (hi : info X e = some i)
  (hz : zeroT X e = some z) (hbz : isBlank z sz = true) (h1 : trO X s = some s') (h2 : trO X x = some x')
  (hrun : (opAct E (.appendK r sz (limOf i.bytes) s' x')).run C ⟨T, μ.O⟩ = some (v, σ')) : σ'.T = T ∧ Done X o a μ σ'.O v := by
 refine op_append_core (C := C) (v := v) true (r := r) hr ho hc hargs htys hd hx hdx hn hi hz hbz h1 h2 ?_
 simp only [opAct, run_ev] at hrun
 exact hrun
end
end Go.AM
namespace Go.AM
open Go Go.RowKit
section
variable {X : Ctx} {E : Env} {C : Oracle} {o : Oper} {a : Go.Act} {T : Nat → V} {μ : Mu} {v : V} {σ' : St}
theorem write_elems (ho : Objs X μ) {r g off len sz : Nat} {es ys : List V} {us : List Value} {p : Option Addr} {cap : Nat} (hes : (μ.O r).es = some es) (hfz : (μ.O r).fz = false) (hosz : (μ.O r).sz = sz)
  (hgen : (μ.O r).gen = g) (hle : len ≤ cap) (a0 : 0 < (μ.O r).sz) (a1 : cap + off = (μ.φ r).cap) (a2 : cap = 0 ∨ p = some ⟨(μ.φ r).blk, (μ.φ r).base + off * (μ.O r).sz, none⟩)
  (hfit : off + len ≤ es.length) (hy : ys.length ≤ len) (hrel : VRels X μ ys us) (hbl : ys.all (isBlank · sz) = true) :
  ∃ w', (match p with | some q => (storeCells q (flat us)).run X.P μ.w = .ok () w' | none => w' = μ.w ∧ flat us = []) ∧
   ∃ φ', φ' r = μ.φ r ∧ Le μ ⟨w', φ', upd μ.O r { μ.O r with es := some (overwrite es off ys) }⟩ ∧ Objs X ⟨w', φ', upd μ.O r { μ.O r with es := some (overwrite es off ys) }⟩ := by
 have hul : us.length = ys.length := hrel.length.symm
 obtain ⟨hus, hone⟩ := hrel.cells_one hbl
 have hfl := flat_length hus
 have hobj : μ.O r = { μ.O r with es := some es } := by rw [← hes]
 rcases Nat.eq_zero_or_pos ys.length with h0 | h0
 ·have hy0 : ys = [] := by simpa using h0
  have hu0 : us = [] := List.length_eq_zero_iff.1 (by omega)
  have hov : overwrite es off ys = es := by simp [overwrite, hy0]
  have hO : upd μ.O r { μ.O r with es := some (overwrite es off ys) } = μ.O := by
   funext q
   by_cases hq : q = r
   ·subst hq; rw [upd_same, hov]; exact hobj.symm
   ·rw [upd_ne _ _ hq]
  rw [hO]
  refine ⟨μ.w, ?_, μ.φ, rfl, Le.refl μ, ho⟩
  cases p with
  | none => simp [hu0, flat]
  | some q => simp [hu0, flat, storeCells]
 ·obtain ⟨q1, q2, q3, q4⟩ := ho.row r es hes a0
  have hcap : cap ≠ 0 := by omega
  have hc0 : (μ.φ r).cap ≠ 0 := by omega
  rcases q4 with q4 | ⟨cc, T0, vs, p1, p2, p3, p4⟩
  ·exact absurd q4 hc0
  ·have hpe := a2.resolve_left hcap
   subst hpe
   have hvl := p3.length
   have hsp : Spells cc.toList (μ.φ r).base sz vs := by have := spells_of_row p1 p4; rwa [hosz] at this
   rw [hosz] at p2
   have hmul : (off + ys.length) * sz ≤ (μ.φ r).cap * sz := Nat.mul_le_mul_right _ (by omega)
   rw [Nat.add_mul] at hmul
   have hw := hsp.write (k := off) (us := us) (by omega) hus (by rw [len_toList cc, hul]; omega)
   have hst := run_store_row (P := X.P) (w := μ.w) (q := (μ.φ r).base + off * sz) p1 (flat us) (by rw [hfl, hul]; omega) hone
   have hwo := write_obj (X := X) (μ := μ) ho r hes hfz p1 hc0 (c' := (splice cc.toList ((μ.φ r).base + off * sz) (flat us)).toArray)
    (by
     have : (splice cc.toList ((μ.φ r).base + off * sz) (flat us)).length = cc.toList.length := splice_length (by rw [len_toList cc, hfl, hul]; omega)
     simpa using this)
    (μ.O r).gen (μ.φ r).base (μ.φ r).cap (es' := overwrite es off ys) (vs' := vs.take off ++ us ++ vs.drop (off + us.length)) (.inl ⟨rfl, rfl, rfl⟩) hc0
    (by simp [overwrite]; omega)
    (by
     simp only [hosz] at q3 ⊢
     have t1 := all_takeO (p := (isBlank · sz)) off q3
     have t2 := all_drop (p := (isBlank · sz)) (off + ys.length) q3
     simp only [overwrite, List.all_append, t1, hbl, t2, Bool.and_self])
    (by
     have := ((VRels.take off p3).append hrel).append (VRels.drop (off + ys.length) p3)
     rw [hul]; exact this)
    (by rw [hosz]; exact p2)
    (fun j y hy => by
     obtain ⟨m1, m2⟩ := hw j y hy
     refine ⟨by rw [hosz]; exact m1, fun l q hq => ?_⟩
     have := m2 l q hq
     simp only [hosz]
     simpa using this)
   refine ⟨_, ?_, _, ?_, hwo.1, hwo.2⟩
   ·simp only [hosz]; exact hst
   ·rw [upd_same]
theorem op_copy {c : Call} {d s : Operand} {dT sT e : TypeId} {d' s' : AOpd} {sz : Nat} (hr : Rel X T a μ) (ho : o.op = .call c) (hc : c.callee = .builtin .copy)
  (hargs : c.args = #[d, s]) (htys : c.argTypes = #[dT, sT]) (hd : descT X dT = some (.slice e)) (hn : sizeT X e = some sz) (h1 : trO X d = some d') (h2 : trO X s = some s')
  (hrun : (opAct E (.copy sz d' s')).run C ⟨T, μ.O⟩ = some (v, σ')) : σ'.T = T ∧ Done X o a μ σ'.O v := by
 simp only [opAct, run_ev] at hrun
 have hdd := trO_rel hr h1 μ.O
 have hss := trO_rel hr h2 μ.O
 have hd' : X.P.underlying dT = some (.slice e) := hd
 obtain ⟨ys, us, k1, k2, k3, k4⟩ := content_sound hr.objs hss hrun
 have fin : ∀ (p : Option Addr) (len cap : Nat) (w' : World), a.eval d = .slice p len cap →
   (match p with | some q => (storeCells q (flat (us.take (min ys.length len)))).run X.P μ.w = .ok () w' | none => w' = μ.w ∧ flat (us.take (min ys.length len)) = []) →
   (execOp a.eval o).run X.P μ.w = .ok (.value (goInt ((min ys.length len : Nat) : Int))) w' := fun p len cap w' hp hst => by
  refine run_builtin ho hc ?_
  simp only [builtin, hargs, htys]
  refine run_v ?_
  have hg0 : (#[dT, sT] : Array TypeId)[0]? = some dT := rfl
  have hmap : Array.map a.eval #[d, s] = #[a.eval d, a.eval s] := by simp
  rw [hmap, hp]
  have ha0 : (#[Value.slice p len cap, a.eval s] : Array Value)[0]? = some (Value.slice p len cap) := rfl
  have ha1 : (#[Value.slice p len cap, a.eval s] : Array Value)[1]? = some (a.eval s) := rfl
  have hfc := k4 μ.w rfl (min ys.length len) (Nat.min_le_left _ _)
  simp only [Builtin.copy_, hg0, ha0, ha1, Sem.run_bind, run_underlying hd', Result.andThen_ok, k3, run_sizeT hn, Nat.min_def] at hfc ⊢
  rw [hfc]
  simp only [Result.andThen_ok]
  simp only [Nat.min_def] at hst
  cases p with
  | none => simp only at hst; obtain ⟨rfl, _⟩ := hst; simp
  | some q => simp only at hst; simp [Sem.run_bind, hst]
 generalize evalOpd ⟨T, μ.O⟩ d' = dv at k1 hdd
 split at k1
 ·obtain ⟨rfl, rfl⟩ := run_done k1
  simp only [VRel] at hdd
  obtain ⟨p, hp⟩ := hdd
  have h0 : min ys.length 0 = 0 := Nat.min_eq_right (Nat.zero_le _)
  have := fin p 0 0 μ.w hp (by rw [h0]; cases p <;> simp [flat, storeCells])
  rw [h0] at this
  exact ⟨rfl, done_pure (val := goInt 0) hr.objs (by simpa using this) (by simp [VRel, goInt])⟩
 ·rename_i r g off len
  simp only [Act.run] at k1
  split at k1
  ·rename_i es hes
   split at k1
   ·rename_i hcc
    obtain ⟨hgen, harr, hfz, hosz, hfit, hbl⟩ := hcc
    simp only [Act.run, Option.some.injEq, Prod.mk.injEq] at k1
    obtain ⟨rfl, rfl⟩ := k1
    simp only [VRel] at hdd
    obtain ⟨p, cap, hp, hle, hge, haddr⟩ := hdd
    obtain ⟨a0, a1, a2⟩ := haddr hgen
    obtain ⟨w', hst, φ', hφ, le, hobj⟩ := write_elems (X := X) hr.objs (us := us.take len) hes hfz hosz hgen hle a0 a1 a2 hfit (ys := ys.take len) (by simp; omega) (VRels.take _ k2) hbl
    have hmin : us.take (min ys.length len) = us.take len := by
     have hl := k2.length
     rcases Nat.le_total ys.length len with h | h
     ·rw [Nat.min_eq_left h, hl, List.take_length, List.take_of_length_le (by omega)]
     ·rw [Nat.min_eq_right h]
    refine ⟨rfl, goInt ((min ys.length len : Nat) : Int), w', φ', .inl (fin p len cap w' hp (by rw [hmin]; exact hst)), ?_, le, hobj⟩
    simp only [VRel, goInt, List.length_take]
    rw [Nat.min_comm]
   ·exact absurd k1 run_fail
  ·exact absurd k1 run_fail
 ·exact absurd k1 run_fail
theorem zeroCells_flat {zv : Value} {sz n : Nat} (hz : zv.cells.size = sz) (hsz : 0 < sz) : (Builtin.zeroCells zv.cells n).toList = flat (List.replicate n zv) := by
 have hs : ∀ u ∈ List.replicate n zv, u.cells.size = sz := fun u hu => by rw [(List.mem_replicate.1 hu).2]; exact hz
 have hfl := flat_length hs
 rw [List.length_replicate] at hfl
 apply List.ext_getElem?
 intro q
 by_cases hq : q < n * sz
 ·have hi : q / sz < n := Nat.div_lt_of_lt_mul (by rw [Nat.mul_comm]; exact hq)
  have hpe : q / sz * sz + q % sz = q := by rw [Nat.mul_comm]; exact Nat.div_add_mod q sz
  have hm : q % sz < zv.cells.size := by rw [hz]; exact Nat.mod_lt _ hsz
  have hc : zv.cells[q % sz]? = some zv.cells[q % sz] := Array.getElem?_eq_getElem hm
  have hv : (List.replicate n zv)[q / sz]? = some zv := by rw [List.getElem?_replicate]; simp [hi]
  have g1 := flat_get hs hv hc
  rw [hpe] at g1
  rw [g1, Array.getElem?_toList]
  have hr : (Array.range (n * sz))[q]? = some q := by simp [hq]
  simp only [Builtin.zeroCells, Array.getElem?_map, hz, hr, Option.map_some]
  rw [getElem!_def, hc]
 ·rw [List.getElem?_eq_none (by rw [len_toList (Builtin.zeroCells _ _), zeroCells_size hz]; omega), List.getElem?_eq_none (by omega)]
theorem op_clear {c : Call} {x : Operand} {t e : TypeId} {x' : AOpd} {sz : Nat} {z : V} (hr : Rel X T a μ) (ho : o.op = .call c) (hc : c.callee = .builtin .clear)
  (hargs : c.args = #[x]) (htys : c.argTypes = #[t]) (hd : descT X t = some (.slice e)) (hz : zeroT X e = some z) (h1 : trO X x = some x')
  (hrun : (opAct E (.clear sz z x')).run C ⟨T, μ.O⟩ = some (v, σ')) : σ'.T = T ∧ Done X o a μ σ'.O v := by
 simp only [opAct, run_ev] at hrun
 have hx := trO_rel hr h1 μ.O
 have hd' : X.P.underlying t = some (.slice e) := hd
 have fin : ∀ w', (Builtin.clear_ #[t] o.type #[a.eval x]).run X.P μ.w = .ok (.tuple #[]) w' → (execOp a.eval o).run X.P μ.w = .ok (.value (.tuple #[])) w' := fun w' hv => by
  refine run_builtin ho hc ?_
  simp only [builtin, hargs, htys]
  refine run_v ?_
  simpa using hv
 have hg0 : (#[t] : Array TypeId)[0]? = some t := rfl
 have ha0 : ∀ y : Value, (#[y] : Array Value)[0]? = some y := fun _ => rfl
 split at hrun
 ·rename_i ex
  obtain ⟨rfl, rfl⟩ := run_done hrun
  rw [ex] at hx; simp only [VRel] at hx
  obtain ⟨p, hp⟩ := hx
  refine ⟨rfl, done_pure (val := .tuple #[]) hr.objs (fin _ ?_) (by simp only [VRel]; exact ⟨#[], rfl, by simp [VRels]⟩)⟩
  cases p <;> simp [Builtin.clear_, Sem.run_bind, run_underlying hd', hp]
 ·rename_i r g off len ex
  rw [ex] at hx
  simp only [Act.run] at hrun
  split at hrun
  ·rename_i es hes
   split at hrun
   ·rename_i hcc
    obtain ⟨hgen, harr, hfz, hosz, hfit, hbz⟩ := hcc
    simp only [Act.run, Option.some.injEq, Prod.mk.injEq] at hrun
    obtain ⟨rfl, rfl⟩ := hrun
    simp only [VRel] at hx
    obtain ⟨p, cap, hp, hle, hge, haddr⟩ := hx
    obtain ⟨a0, a1, a2⟩ := haddr hgen
    obtain ⟨zv, hz1, hz2⟩ := zero_run hz μ.w
    obtain ⟨hzr, hzl⟩ := constV_rel (X := X) (μ := μ) hz2
    have hzs : zv.cells.size = sz := by rw [hzr.cells_size hzl, (isBlank_lies hbz).2]
    have hsz : 0 < sz := hosz ▸ a0
    obtain ⟨w', hst, φ', hφ, le, hobj⟩ := write_elems (X := X) hr.objs (us := List.replicate len zv) hes hfz hosz hgen hle a0 a1 a2 hfit (ys := List.replicate len z) (by simp) (VRels.replicate hzr len)
     (by simp only [List.all_eq_true, List.mem_replicate]; rintro y ⟨_, rfl⟩; exact hbz)
    refine ⟨rfl, .tuple #[], w', φ', .inl (fin _ ?_), by simp only [VRel]; exact ⟨#[], rfl, by simp [VRels]⟩, le, hobj⟩
    rw [← zeroCells_flat hzs hsz] at hst
    rw [hp]
    simp only [Builtin.clear_, hg0, ha0, Sem.run_bind, run_underlying hd', Result.andThen_ok]
    rcases Nat.eq_zero_or_pos len with h0 | h0
    ·subst h0
     have hz0 : (Builtin.zeroCells zv.cells 0).toList = [] := by rw [zeroCells_flat hzs hsz]; rfl
     rw [hz0] at hst
     have hw : w' = μ.w := by
      cases p with
      | none => exact hst.1
      | some q => simp [storeCells] at hst; exact hst.symm
     subst hw
     cases p <;> simp
    ·cases p with
     | none =>
      have hcap : cap ≠ 0 := by omega
      exact absurd (a2.resolve_left hcap) (by simp)
     | some q =>
      obtain ⟨n, rfl⟩ : ∃ n, len = n + 1 := ⟨len - 1, by omega⟩
      simp only at hst
      simp [Sem.run_bind, hz1, hst]
   ·exact absurd hrun run_fail
  ·exact absurd hrun run_fail
 ·exact absurd hrun run_fail
theorem op_deep {x : Operand} {y : AOpd} (hr : Rel X T a μ) (ho : o.op = .move x ∨ o.op = .assign x) (ht : trO X x = some y) (hrun : (opAct E (.deep y)).run C ⟨T, μ.O⟩ = some (v, σ')) :
  σ'.T = T ∧ Done X o a μ σ'.O v := by
 simp only [opAct, run_ev] at hrun
 have hrel := trO_rel hr ht μ.O
 have hexec : (execOp a.eval o).run X.P μ.w = .ok (.value (a.eval x)) μ.w := by rcases ho with ho | ho <;> simp [execOp, ho]
 unfold deepAct at hrun
 split at hrun
 ·rename_i r g off len he
  rw [he] at hrel
  simp only [Act.run] at hrun
  split at hrun
  ·rename_i es hes
   split at hrun
   rotate_left
   ·exact absurd hrun run_fail
   rename_i hgen
   have hrel' := hrel
   simp only [VRel] at hrel'
   obtain ⟨_, _, _, _, _, haddr⟩ := hrel'
   obtain ⟨q1, q2, q3, q4⟩ := hr.objs.row r es hes (haddr hgen).1
   obtain ⟨vs, hvs, hmem⟩ : ∃ vs, VRels X μ es vs ∧ ((μ.φ r).cap = 0 ∨ ∃ c T, μ.w.heap[(μ.φ r).blk]? = some (.cells c T (0, 0)) ∧ (μ.φ r).base + (μ.φ r).cap * (μ.O r).sz ≤ c.size ∧
     RowAt μ.w (μ.φ r).blk (μ.φ r).base (μ.O r).sz vs) := by
    rcases q4 with q4 | ⟨c, T0, vs, p1, p2, p3, p4⟩
    ·have : es = [] := by
      have : es.length = 0 := by omega
      simpa using this
     subst this
     exact ⟨[], by simp [VRels], .inl q4⟩
    ·exact ⟨vs, p3, .inr ⟨c, T0, p1, p2, p4⟩⟩
   obtain ⟨es', O1, g1, g2, g3, g4⟩ := frzs_sound (μ := μ) hr.objs hvs hrun
   simp only [Act.run] at g1
   split at g1
   ·rename_i hc
    obtain ⟨hc1, hc2, hc3⟩ := hc
    simp only [Act.run, Option.some.injEq, Prod.mk.injEq] at g1
    obtain ⟨rfl, rfl⟩ := g1
    have hs : (O1 r).sz = (μ.O r).sz := (g3.row r hc1).2
    have hlen : es'.length = es.length := by rw [g2.length, hvs.length]
    obtain ⟨le, ho'⟩ := reset_obj (X := X) (μ := ⟨μ.w, μ.φ, O1⟩) g4 r (es' := es') hc2 (by rw [hs]; exact q1) (by rw [hlen]; exact q2) (by rw [hs]; exact hc3) (by
     refine hmem.imp id ?_
     rintro ⟨c, T0, p1, p2, p4⟩
     exact ⟨c, T0, vs, p1, by simp only [hs]; exact p2, g2, by simp only [hs]; exact p4⟩)
    exact ⟨rfl, a.eval x, μ.w, μ.φ, .inl hexec, VRel.mono (g3.trans le) hrel, g3.trans le, ho'⟩
   ·exact absurd g1 run_fail
  ·exact absurd hrun run_fail
 ·obtain ⟨rfl, rfl⟩ := run_done hrun
  exact ⟨rfl, done_pure hr.objs hexec hrel⟩
end
end Go.AM
namespace Go.AM
open Go Go.RowKit Go.MapKept
section
variable {X : Ctx} {E : Env} {C : Oracle} {o : Oper} {a : Go.Act} {T : Nat → V} {μ : Mu} {v : V} {σ' : St}
def tup (e : MapEntry) : Value := .tuple #[e.key, e.val]
def KeyDesc (q : Option IntKind) (d : TypeDesc) : Prop := match q with
 | some q => d = .int q
 | none => d = .string
theorem key_is {q : Option IntKind} {d : TypeDesc} {k : V} {kv : Value} (hd : KeyDesc q d) (hk : isKey q k = true) (hv : VRel X μ k kv) : IsKey d kv := by
 unfold isKey at hk
 unfold KeyDesc at hd
 split at hk
 ·simp only [VRel] at hv
  subst hv; subst hd
  simpa [IsKey] using hk
 ·simp only [VRel] at hv
  obtain ⟨bs, rfl, _⟩ := hv
  subst hd
  simp [IsKey]
 ·simp at hk
theorem keyEq_rel {q : Option IntKind} {d : TypeDesc} {k k' : V} {kv kv' : Value} {b : Bool} (hd : KeyDesc q d) (hk : isKey q k = true) (h1 : VRel X μ k kv) (h2 : VRel X μ k' kv') (h : keyEq k k' = some b) :
  Instr.sameNow d kv kv' = some b ∧ (b = true → kv' = kv) := by
 unfold keyEq at h
 split at h
 ·simp only [VRel] at h1 h2
  subst h1; subst h2
  split at h
  ·rename_i e
   subst e
   injection h with h
   subst h
   have : ∃ q', d = .int q' := by
    unfold isKey at hk
    unfold KeyDesc at hd
    cases q <;> simp_all
   obtain ⟨q', rfl⟩ := this
   refine ⟨by simp [Instr.sameNow], fun hb => ?_⟩
   simp only [beq_iff_eq] at hb
   rw [hb]
  ·simp at h
 ·simp only [VRel] at h1 h2
  obtain ⟨x, rfl, rfl⟩ := h1
  obtain ⟨y, rfl, rfl⟩ := h2
  injection h with h
  subst h
  have : d = .string := by
   unfold isKey at hk
   unfold KeyDesc at hd
   cases q <;> simp_all
  subst this
  have hxy : (x == y) = decide (x.data.toList = y.data.toList) := by
   rw [Bool.eq_iff_iff, bytes_beq, decide_eq_true_eq]
   constructor
   ·rintro rfl; rfl
   ·intro h
    cases x; cases y
    simp only [ByteArray.mk.injEq]
    exact Array.toList_inj.1 h
  refine ⟨by simp [Instr.sameNow, hxy], fun hb => ?_⟩
  rw [← hxy, bytes_beq] at hb
  rw [hb]
 ·simp at h
theorem tup_rel {e : V} {me : MapEntry} (h : VRel X μ e (tup me)) {k v : V} (he : e = .tuple [k, v]) : VRel X μ k me.key ∧ VRel X μ v me.val := by
 subst he
 simp only [tup, VRel] at h
 obtain ⟨vs, h1, h2⟩ := h
 injection h1 with h1
 subst h1
 simpa [VRels] using h2
theorem tup_mk {k v : V} {me : MapEntry} (h1 : VRel X μ k me.key) (h2 : VRel X μ v me.val) : VRel X μ (.tuple [k, v]) (tup me) := by
 simp only [tup, VRel]
 exact ⟨_, rfl, by simp [VRels, h1, h2]⟩
theorem mapFind_rel {q : Option IntKind} {d : TypeDesc} {k : V} {kv : Value} (hd : KeyDesc q d) (hk : isKey q k = true) (h1 : VRel X μ k kv) : ∀ {es : List V} {ents : List MapEntry} {i : Nat} {r : Option V}, VRels X μ es (ents.map tup) → mapFind k es = some r →
  (r = none ∧ Instr.findNow d kv ents i = some none) ∨ ∃ v j e, r = some v ∧ Instr.findNow d kv ents i = some (some (j, e)) ∧ VRel X μ v e
 | [], [], i, r, _, h => by simp [mapFind] at h; subst h; exact .inl ⟨rfl, rfl⟩
 | [], _ :: _, _, _, h, _ => by simp [VRels] at h
 | _ :: _, [], _, _, h, _ => by simp [VRels] at h
 | e :: es, m :: ents, i, r, hr, h => by
  simp only [List.map_cons, VRels] at hr
  unfold mapFind at h
  split at h
  ·rename_i heq; simp at heq
  ·rename_i k' v' es' heq
   injection heq with e1 e2
   subst e2
   obtain ⟨t1, t2⟩ := tup_rel hr.1 e1
   split at h
   ·rename_i hq
    injection h with h
    subst h
    obtain ⟨s1, _⟩ := keyEq_rel hd hk h1 t1 hq
    exact .inr ⟨v', i, m.val, rfl, by simp [Instr.findNow, s1], t2⟩
   ·rename_i hq
    obtain ⟨s1, _⟩ := keyEq_rel hd hk h1 t1 hq
    rcases mapFind_rel hd hk h1 (i := i + 1) hr.2 h with ⟨g1, g2⟩ | ⟨v, j, x, g1, g2, g3⟩
    ·exact .inl ⟨g1, by simp [Instr.findNow, s1, g2]⟩
    ·exact .inr ⟨v, j, x, g1, by simp [Instr.findNow, s1, g2], g3⟩
   ·simp at h
  ·simp at h
theorem mapPut_rel {q : Option IntKind} {d : TypeDesc} {k u : V} {kv val : Value} (hd : KeyDesc q d) (hk : isKey q k = true) (h1 : VRel X μ k kv) (h2 : VRel X μ u val) : ∀ {es es' : List V} {ents : List MapEntry} {i : Nat}, VRels X μ es (ents.map tup) → mapPut k u es = some es' →
  (Instr.findNow d kv ents i = some none ∧ ∀ c, VRels X μ es' ((ents ++ [({ key := kv, val := val, born := c } : MapEntry)]).map tup)) ∨
  ∃ j e, Instr.findNow d kv ents i = some (some (i + j, e.val)) ∧ ents[j]? = some e ∧ e.key = kv ∧ VRels X μ es' ((ents.set j ({ key := kv, val := val, born := e.born } : MapEntry)).map tup)
 | [], es', [], i, _, h => by
  simp [mapPut] at h; subst h
  exact .inl ⟨rfl, fun c => by simp only [List.nil_append, List.map_cons, List.map_nil, VRels]; exact ⟨tup_mk (me := { key := kv, val := val, born := c }) h1 h2, trivial⟩⟩
 | [], _, _ :: _, _, h, _ => by simp [VRels] at h
 | _ :: _, _, [], _, h, _ => by simp [VRels] at h
 | e :: es, es', m :: ents, i, hr, h => by
  simp only [List.map_cons, VRels] at hr
  unfold mapPut at h
  split at h
  ·rename_i heq; simp at heq
  ·rename_i k' v' es2 heq
   injection heq with e1 e2
   subst e2
   obtain ⟨t1, t2⟩ := tup_rel hr.1 e1
   split at h
   ·rename_i hq
    injection h with h
    subst h
    obtain ⟨s1, s2⟩ := keyEq_rel hd hk h1 t1 hq
    exact .inr ⟨0, m, by simp [Instr.findNow, s1], rfl, s2 rfl, by simp only [List.set_cons_zero, List.map_cons, VRels]; exact ⟨tup_mk (me := { key := kv, val := val, born := m.born }) h1 h2, hr.2⟩⟩
   ·rename_i hq
    obtain ⟨s1, _⟩ := keyEq_rel hd hk h1 t1 hq
    rw [Option.map_eq_some_iff] at h
    obtain ⟨es3, g0, rfl⟩ := h
    rcases mapPut_rel hd hk h1 h2 (i := i + 1) hr.2 g0 with ⟨g1, g2⟩ | ⟨j, x, g1, g2, g3, g4⟩
    ·exact .inl ⟨by simp [Instr.findNow, s1, g1], fun c => by simp only [List.cons_append, List.map_cons, VRels]; exact ⟨tup_mk t1 t2, g2 c⟩⟩
    ·exact .inr ⟨j + 1, x, by simp [Instr.findNow, s1, g1]; omega, by simpa using g2, g3, by simp only [List.set_cons_succ, List.map_cons, VRels]; exact ⟨tup_mk t1 t2, g4⟩⟩
   ·simp at h
  ·simp at h
theorem op_mkMap {t : TypeId} {rs : Option Operand} {r : Nat} (hr : Rel X T a μ) (ho : o.op = .makeMap t rs) (hrs : rs = none) (hrun : (opAct E (.mkMap r)).run C ⟨T, μ.O⟩ = some (v, σ')) : σ'.T = T ∧ Done X o a μ σ'.O v := by
 subst hrs
 simp only [opAct, Act.run, Option.some.injEq, Prod.mk.injEq] at hrun
 obtain ⟨rfl, rfl⟩ := hrun
 obtain ⟨le, hobj⟩ := new_cell hr.objs r (.map #[] 0) [] (.inl ⟨#[], 0, rfl, by simp [VRels]⟩)
 refine ⟨rfl, .map (some μ.w.heap.size), _, _, .inl ?_, ?_, le, hobj⟩
 ·simp only [execOp, ho]
  refine run_v ?_
  simp [Instr.makeMap, Sem.run_bind]
 ·simp only [VRel, upd_same]
  exact ⟨_, rfl, Nat.le_refl _, fun _ => ⟨trivial, rfl⟩⟩
theorem op_mapGet {t kt et : TypeId} {d : TypeDesc} {x i : Operand} {x' i' : AOpd} {ok : Bool} {q : Option IntKind} {z : V} (hr : Rel X T a μ) (ho : o.op = .lookup t x i ok) (ht : descT X t = some (.map kt et)) (hkd : descT X kt = some d) (hd : KeyDesc q d)
  (hz : zeroT X et = some z) (h1 : trO X x = some x') (h2 : trO X i = some i') (hrun : (opAct E (.mapGet q ok z x' i')).run C ⟨T, μ.O⟩ = some (v, σ')) : σ'.T = T ∧ Done X o a μ σ'.O v := by
 simp only [opAct, run_ev] at hrun
 have hx := trO_rel hr h1 μ.O
 have hi := trO_rel hr h2 μ.O
 have ht' : X.P.underlying t = some (.map kt et) := ht
 have hkd' : X.P.underlying kt = some d := hkd
 obtain ⟨zv, hz1, hz2⟩ := zero_run hz μ.w
 obtain ⟨hzr, hzl⟩ := constV_rel (X := X) (μ := μ) hz2
 split at hrun
 ·rename_i hkey
  have hik := key_is hd hkey hi
  have main : ∀ {es : List V} {ents : Array MapEntry} {m : Option Nat}, VRels X μ es (ents.toList.map tup) → (mapGetV ok z es (evalOpd ⟨T, μ.O⟩ i')).run C ⟨T, μ.O⟩ = some (v, σ') → a.eval x = .map m →
    (match m with | none => ents = #[] | some r => ∃ clock, μ.w.heap[r]? = some (.map ents clock)) → σ'.T = T ∧ Done X o a μ σ'.O v := by
   intro es ents m hrel hget hm hb
   have fin : ∀ (u : Value) (b : Bool), (match Instr.findNow d (a.eval i) ents.toList 0 with
     | some (some (_, v)) => u = v ∧ b = true
     | some none => u = zv ∧ b = false
     | none => False) → (execOp a.eval o).run X.P μ.w = .ok (.value (if ok then .tuple #[u, .bool b] else u)) μ.w := by
    intro u b hf
    simp only [execOp, ho]
    refine run_v ?_
    cases hfn : Instr.findNow d (a.eval i) ents.toList 0 with
    | none => rw [hfn] at hf; exact hf.elim
    | some r =>
     rw [hfn] at hf
     cases m with
     | none =>
      simp only at hb
      subst hb
      cases r with
      | none =>
       simp only at hf; obtain ⟨rfl, rfl⟩ := hf
       cases ok <;> simp [Instr.lookup, Sem.run_bind, run_underlying ht', Result.andThen, hm, Go.MapKept.run_checkKey hkd' hik, Go.MapKept.run_findKey (l := []) hkd' (by simpa using hfn), hz1]
      | some p =>
       obtain ⟨j, y⟩ := p
       simp only at hf; obtain ⟨rfl, rfl⟩ := hf
       cases ok <;> simp [Instr.lookup, Sem.run_bind, run_underlying ht', Result.andThen, hm, Go.MapKept.run_checkKey hkd' hik, Go.MapKept.run_findKey (l := []) hkd' (by simpa using hfn)]
     | some rr =>
      obtain ⟨clock, hb⟩ := hb
      cases r with
      | none =>
       simp only at hf; obtain ⟨rfl, rfl⟩ := hf
       cases ok <;> simp [Instr.lookup, Sem.run_bind, run_underlying ht', Result.andThen, hm, Go.MapKept.run_getObj_map hb, Go.MapKept.run_checkKey hkd' hik, Go.MapKept.run_findKey hkd' hfn, hz1]
      | some p =>
       obtain ⟨j, y⟩ := p
       simp only at hf; obtain ⟨rfl, rfl⟩ := hf
       cases ok <;> simp [Instr.lookup, Sem.run_bind, run_underlying ht', Result.andThen, hm, Go.MapKept.run_getObj_map hb, Go.MapKept.run_checkKey hkd' hik, Go.MapKept.run_findKey hkd' hfn]
   unfold mapGetV at hget
   split at hget
   ·rename_i y hy
    obtain ⟨rfl, rfl⟩ := run_done hget
    rcases mapFind_rel hd hkey hi (i := 0) hrel hy with ⟨g1, _⟩ | ⟨v0, j, e, g1, g2, g3⟩
    ·cases g1
    ·injection g1 with g1
     subst g1
     refine ⟨rfl, done_pure hr.objs (fin e true (by rw [g2]; exact ⟨rfl, rfl⟩)) ?_⟩
     cases ok
     ·simpa using g3
     ·simp only [if_true, VRel]; exact ⟨_, rfl, by simp [VRels, VRel, g3]⟩
   ·rename_i hy
    obtain ⟨rfl, rfl⟩ := run_done hget
    rcases mapFind_rel hd hkey hi (i := 0) hrel hy with ⟨_, g2⟩ | ⟨v0, j, e, g1, g2, g3⟩
    ·refine ⟨rfl, done_pure hr.objs (fin zv false (by rw [g2]; exact ⟨rfl, rfl⟩)) ?_⟩
     cases ok
     ·simpa using hzr
     ·simp only [if_true, VRel]; exact ⟨_, rfl, by simp [VRels, VRel, hzr]⟩
    ·cases g1
   ·exact absurd hget run_fail
  split at hrun
  ·rename_i r g e
   rw [e] at hx
   simp only [VRel] at hx
   obtain ⟨b, hp, hge, haddr⟩ := hx
   simp only [Act.run] at hrun
   split at hrun
   ·rename_i es hes
    split at hrun
    ·rename_i hc
     obtain ⟨k0, rfl⟩ := haddr hc.1
     rcases hr.objs.ents r es hes hc.2 with ⟨hcap, ents, clock, hm, hrel⟩ | ⟨_, s, pos, _, rfl⟩
     ·exact main hrel hrun hp ⟨clock, hm⟩
     ·exact absurd (by simpa [mapGetV, mapFind] using hrun) run_fail
    ·exact absurd hrun run_fail
   ·exact absurd hrun run_fail
  ·rename_i es e
   rw [e] at hx
   simp only [VRel] at hx
   obtain ⟨_, ⟨rfl, hp⟩ | ⟨b, ents, clock, hp, _, _, hm, hrel⟩⟩ := hx
   ·exact main (ents := #[]) (by simp [VRels]) hrun hp rfl
   ·exact main hrel hrun hp ⟨clock, hm⟩
  ·exact absurd hrun run_fail
 ·exact absurd hrun run_fail
theorem op_mapUpd {t kt et : TypeId} {d : TypeDesc} {x i y : Operand} {x' i' y' : AOpd} {q : Option IntKind} (hr : Rel X T a μ) (ho : o.op = .mapUpdate t x i y ∨ o.op = .insert t x i y) (ht : descT X t = some (.map kt et)) (hkd : descT X kt = some d) (hd : KeyDesc q d)
  (h1 : trO X x = some x') (h2 : trO X i = some i') (h3 : trO X y = some y') (hrun : (opAct E (.mapUpd q x' i' y')).run C ⟨T, μ.O⟩ = some (v, σ')) : σ'.T = T ∧ Done X o a μ σ'.O v := by
 simp only [opAct, run_ev] at hrun
 have hx := trO_rel hr h1 μ.O
 have hi := trO_rel hr h2 μ.O
 have hy := trO_rel hr h3 μ.O
 have ht' : X.P.underlying t = some (.map kt et) := ht
 have hkd' : X.P.underlying kt = some d := hkd
 split at hrun
 ·rename_i r g e
  rw [e] at hx
  simp only [run_ev] at hrun
  obtain ⟨u, O1, k1, k2, k3, k4⟩ := frz_sound (μ := μ) hr.objs hy hrun
  have hx1 := VRel.mono k3 hx
  have hi1 := VRel.mono k3 hi
  simp only [Act.run] at k1
  split at k1
  ·rename_i es hes
   split at k1
   ·rename_i hc
    obtain ⟨hgen, hsz, hfz, hkey, hlies⟩ := hc
    split at k1
    ·rename_i es' hput
     simp only [Act.run, Option.some.injEq, Prod.mk.injEq] at k1
     obtain ⟨rfl, rfl⟩ := k1
     simp only [VRel] at hx1
     obtain ⟨b, hp, hge, haddr⟩ := hx1
     obtain ⟨_, rfl⟩ := haddr hgen
     obtain ⟨hcap, ents, clock, hm, hrel⟩ : (μ.φ r).cap ≠ 0 ∧ ∃ ents clock, μ.w.heap[(μ.φ r).blk]? = some (.map ents clock) ∧ VRels X ⟨μ.w, μ.φ, O1⟩ es (ents.toList.map tup) := by
      rcases k4.ents r es hes hsz with h | ⟨_, s, pos, _, rfl⟩
      ·exact h
      ·simp [mapPut] at hput
     have hik := key_is hd hkey hi1
     have fin : ∀ w', (Instr.mapUpdate t (.map (some (μ.φ r).blk)) (a.eval i) (a.eval y)).run X.P μ.w = .ok () w' → (execOp a.eval o).run X.P μ.w = .ok .skip w' := fun w' hw => by
      rcases ho with ho | ho
      ·simp only [execOp, ho, hp]; exact run_u hw
      ·simp only [execOp, ho, hp]; exact run_u hw
     rcases mapPut_rel hd hkey hi1 k2 (i := 0) hrel hput with ⟨g1, g2⟩ | ⟨j, e, g1, g2, g3, g4⟩
     ·obtain ⟨le, hobj⟩ := write_cell (μ := ⟨μ.w, μ.φ, O1⟩) k4 r (es' := es') (ob' := .map (ents.push { key := a.eval i, val := a.eval y, born := clock }) (clock + 1)) hes hfz hsz hm hcap (.inl ⟨ents, clock, rfl, hrel⟩) (.inl ⟨_, _, rfl, by
       have := g2 clock
       have e1 : (ents.push ({ key := a.eval i, val := a.eval y, born := clock } : MapEntry)).toList = ents.toList ++ [({ key := a.eval i, val := a.eval y, born := clock } : MapEntry)] := by simp
       rw [e1]; exact this⟩)
      refine ⟨rfl, undef, _, _, .inr ⟨fin _ ?_, rfl⟩, by simp only [VRel]; exact ⟨#[], rfl, by simp [VRels]⟩, k3.trans le, hobj⟩
      simp [Instr.mapUpdate, run_underlying ht', Go.MapKept.run_getObj_map hm, Go.MapKept.run_checkKey hkd' hik, Go.MapKept.run_findKey hkd' g1, Go.MapKept.run_setObj_map _ hm, Result.andThen, Sem.run_bind]
     ·rw [Nat.zero_add] at g1
      have hje : ents[j]? = some e := by simpa using g2
      obtain ⟨le, hobj⟩ := write_cell (μ := ⟨μ.w, μ.φ, O1⟩) k4 r (es' := es') (ob' := .map (ents.modify j fun e => { e with key := a.eval i, val := a.eval y }) (clock)) hes hfz hsz hm hcap (.inl ⟨ents, clock, rfl, hrel⟩) (.inl ⟨_, _, rfl, by
       have hl : (ents.modify j fun e => { e with key := a.eval i, val := a.eval y }).toList = ents.toList.set j { e with key := a.eval i, val := a.eval y } := by
        apply List.ext_getElem?
        intro n
        rw [Array.toList_modify, List.getElem?_modify, List.getElem?_set]
        by_cases hn : j = n
        ·subst hn
         have hlt := (List.getElem?_eq_some_iff.1 g2).1
         simp only [if_true, hlt, g2, Option.map_some, and_self]
         rfl
        ·simp [hn]
       rw [hl]; exact g4⟩)
      refine ⟨rfl, undef, _, _, .inr ⟨fin _ ?_, rfl⟩, by simp only [VRel]; exact ⟨#[], rfl, by simp [VRels]⟩, k3.trans le, hobj⟩
      simp [Instr.mapUpdate, run_underlying ht', Go.MapKept.run_getObj_map hm, Go.MapKept.run_checkKey hkd' hik, Go.MapKept.run_findKey hkd' g1, hje, g3, Go.MapKept.run_keyThatStays hik, Go.MapKept.run_setObj_map _ hm, Result.andThen, Sem.run_bind]
    ·exact absurd k1 run_fail
   ·exact absurd k1 run_fail
  ·exact absurd k1 run_fail
 ·exact absurd hrun run_fail
theorem run_getObj_iter {P : Program} {w : World} {r : Nat} {s : ByteArray} {pos : Nat} (hb : w.heap[r]? = some (.stringIter s pos)) : (getObj r).run P w = .ok (.stringIter s pos) w := by
 simp [getObj, Sem.run, hb]
theorem run_setObj_iter {P : Program} {w : World} {r : Nat} {s : ByteArray} {pos : Nat} (o : Go.Obj) (hb : w.heap[r]? = some (.stringIter s pos)) : (setObj r o).run P w = .ok () { w with heap := w.heap.setIfInBounds r o } := by
 simp [setObj, Sem.run, hb]
theorem op_strIter {t : TypeId} {x : Operand} {y : AOpd} {r : Nat} (hr : Rel X T a μ) (ho : o.op = .range t x) (ht : descT X t = some .string) (h1 : trO X x = some y) (hrun : (opAct E (.strIter r y)).run C ⟨T, μ.O⟩ = some (v, σ')) : σ'.T = T ∧ Done X o a μ σ'.O v := by
 simp only [opAct, run_ev] at hrun
 have hx := trO_rel hr h1 μ.O
 have ht' : X.P.underlying t = some .string := ht
 split at hrun
 ·rename_i s e
  rw [e] at hx
  simp only [VRel] at hx
  obtain ⟨bs, hp, rfl⟩ := hx
  simp only [Act.run, Option.some.injEq, Prod.mk.injEq] at hrun
  obtain ⟨rfl, rfl⟩ := hrun
  obtain ⟨le, hobj⟩ := new_cell hr.objs r (.stringIter bs 0) [.str bs.data.toList, .int .i64 0] (.inr ⟨bs, 0, rfl, rfl⟩)
  refine ⟨rfl, .pointer (some ⟨μ.w.heap.size, 0, none⟩), _, _, .inl ?_, ?_, le, hobj⟩
  ·simp only [execOp, ho]
   refine run_v ?_
   simp [Instr.range, Sem.run_bind, run_underlying ht', hp, Result.andThen]
  ·simp only [VRel, upd_same]
   exact ⟨_, rfl, Nat.le_refl _, fun _ => ⟨trivial, rfl⟩⟩
 ·exact absurd hrun run_fail
theorem op_strNext {x : Operand} {y : AOpd} (hr : Rel X T a μ) (ho : o.op = .next x true) (h1 : trO X x = some y) (hrun : (opAct E (.strNext y)).run C ⟨T, μ.O⟩ = some (v, σ')) : σ'.T = T ∧ Done X o a μ σ'.O v := by
 simp only [opAct, run_ev] at hrun
 have hx := trO_rel hr h1 μ.O
 split at hrun
 ·rename_i r g e
  rw [e] at hx
  simp only [VRel] at hx
  obtain ⟨b, hp, hge, haddr⟩ := hx
  simp only [Act.run] at hrun
  split at hrun
  ·rename_i s p hes
   split at hrun
   ·rename_i hc
    obtain ⟨hgen, hsz, hfz⟩ := hc
    obtain ⟨_, rfl⟩ := haddr hgen
    rcases hr.objs.ents r _ hes hsz with ⟨hcap, ents, clock, hm, hrel⟩ | ⟨hcap, bs, pos, hm, hs⟩
    ·exfalso
     cases he : ents.toList with
     | nil => simp [he, VRels] at hrel
     | cons e es => simp [he, VRels, VRel] at hrel
    ·simp only [List.cons.injEq, V.str.injEq, V.int.injEq, true_and, and_true] at hs
     obtain ⟨rfl, rfl⟩ := hs
     simp only [Int.toNat_natCast] at hrun
     have hlen : bs.data.toList.length = bs.size := by rw [Array.length_toList]; rfl
     have hbs : (⟨bs.data.toList.toArray⟩ : ByteArray) = bs := by cases bs; simp
     rw [hlen, hbs] at hrun
     split at hrun
     ·rename_i hlt
      simp only [Act.run, Option.some.injEq, Prod.mk.injEq] at hrun
      obtain ⟨rfl, rfl⟩ := hrun
      obtain ⟨le, hobj⟩ := write_cell hr.objs r (es' := [.str bs.data.toList, .int .i64 ((pos + (Utf8.decode bs pos).2 : Nat) : Int)]) (ob' := .stringIter bs (pos + (Utf8.decode bs pos).2)) hes hfz hsz hm hcap (.inr ⟨bs, pos, rfl, rfl⟩) (.inr ⟨bs, _, rfl, rfl⟩)
      refine ⟨rfl, .tuple #[.bool true, goInt pos, .int .i32 ((Utf8.decode bs pos).1 : Int)], _, _, .inl ?_, ?_, le, hobj⟩
      ·simp only [execOp, ho]
       refine run_v ?_
       simp [Instr.next, Sem.run_bind, hp, Result.andThen, run_getObj_iter hm, run_setObj_iter _ hm, hlt, -bind_pure_comp]
      ·simp only [VRel]
       exact ⟨_, rfl, by simp [VRels, VRel, goInt]⟩
     ·rename_i hlt
      obtain ⟨rfl, rfl⟩ := run_done hrun
      refine ⟨rfl, done_pure hr.objs (val := .tuple #[.bool false]) ?_ ?_⟩
      ·simp only [execOp, ho]
       refine run_v ?_
       simp [Instr.next, Sem.run_bind, hp, Result.andThen, run_getObj_iter hm, run_setObj_iter _ hm, hlt, -bind_pure_comp]
      ·simp only [VRel]
       exact ⟨_, rfl, by simp [VRels, VRel]⟩
   ·exact absurd hrun run_fail
  ·exact absurd hrun run_fail
 ·exact absurd hrun run_fail
theorem op_frzM {x : Operand} {y : AOpd} (hr : Rel X T a μ) (ho : o.op = .move x ∨ o.op = .assign x) (ht : trO X x = some y) (hrun : (opAct E (.frzM y)).run C ⟨T, μ.O⟩ = some (v, σ')) : σ'.T = T ∧ Done X o a μ σ'.O v := by
 simp only [opAct, run_ev] at hrun
 have hexec : (execOp a.eval o).run X.P μ.w = .ok (.value (a.eval x)) μ.w := by rcases ho with ho | ho <;> simp [execOp, ho]
 obtain ⟨u, O1, k1, k2, k3, k4⟩ := frz_sound (μ := μ) hr.objs (trO_rel hr ht μ.O) hrun
 obtain ⟨rfl, rfl⟩ := run_done k1
 exact ⟨rfl, a.eval x, μ.w, μ.φ, .inl hexec, k2, k3, k4⟩
end
end Go.AM
namespace Go.AM
open Go Go.RowKit
def AOp.isCall : AOp → Bool
 | .call .. => true
 | _ => false
section
variable {X : Ctx} {E : Env} {C : Oracle} {o : Oper} {a : Go.Act} {T : Nat → V} {μ : Mu} {v : V} {σ' : St}
theorem run_bad {p : V × St} {σ : St} : (opAct E .bad).run C σ ≠ some p := by simp [opAct, Act.run]
theorem call_sound {h : Hints} {dst : Nat} {c : Call} {aop : AOp} (hr : Rel X T a μ) (ho : o.op = .call c) (htr : trCall X h dst c = some aop) (hnc : aop.isCall = false)
  (hrun : (opAct E aop).run C ⟨T, μ.O⟩ = some (v, σ')) : σ'.T = T ∧ Done X o a μ σ'.O v := by
 unfold trCall at htr
 split at htr
 ·split at htr
  ·injection htr with htr; subst htr; simp [AOp.isCall] at hnc
  ·simp at htr
 ·simp at htr
 ·rename_i b hc
  have harr : ∀ {α : Type} (l : Array α) (m : List α), l.toList = m → l = m.toArray := fun l m e => by rw [← e]
  split at htr
  ·rename_i x t h1 h2
   have e1 := harr _ _ h1; have e2 := harr _ _ h2
   split at htr
   ·rename_i x' e hx hd
    injection htr with htr; subst htr
    exact op_len hr ho hc e1 e2 hd hx hrun
   ·rename_i x' hx hd
    injection htr with htr; subst htr
    exact op_lenStr hr ho hc e1 e2 hd hx hrun
   ·rename_i x' n e hx hd
    injection htr with htr; subst htr
    exact op_lenArr hr ho hc e1 e2 hd hrun
   ·simp at htr
  ·rename_i xs _
   simp only [Option.map_eq_some_iff] at htr
   obtain ⟨as, h1, rfl⟩ := htr
   exact op_min hr ho hc h1 hrun
  ·rename_i xs _
   simp only [Option.map_eq_some_iff] at htr
   obtain ⟨as, h1, rfl⟩ := htr
   exact op_max hr ho hc h1 hrun
  ·rename_i s x t t' h1 h2
   have e1 := harr _ _ h1; have e2 := harr _ _ h2
   split at htr
   ·rename_i s' x' e d hs hx hd hd2
    split at htr
    ·rename_i sz i z e' hn hi hz
     split at htr <;> simp at htr
     rename_i hb
     subst htr
     split at hrun
     ·exact op_appendK hr ho hc e1 e2 hd hd2 (by simp) hn hi hz hb hs hx hrun
     ·exact op_append hr ho hc e1 e2 hd hd2 (by simp) hn hi hz hb hs hx hrun
    ·rename_i sz i z hn hi hz
     split at htr <;> simp at htr
     rename_i hb
     subst htr
     split at hrun
     ·exact op_appendK hr ho hc e1 e2 hd hd2 (by simp) hn hi hz hb hs hx hrun
     ·exact op_append hr ho hc e1 e2 hd hd2 (by simp) hn hi hz hb hs hx hrun
    ·simp at htr
   ·simp at htr
  ·rename_i d s t t' h1 h2
   have e1 := harr _ _ h1; have e2 := harr _ _ h2
   split at htr
   ·rename_i d' s' e hd hs ht
    simp only [Option.map_eq_some_iff] at htr
    obtain ⟨sz, hn, rfl⟩ := htr
    exact op_copy hr ho hc e1 e2 ht hn hd hs hrun
   ·simp at htr
  ·rename_i x t h1 h2
   have e1 := harr _ _ h1; have e2 := harr _ _ h2
   split at htr
   ·rename_i x' e hx hd
    split at htr
    ·rename_i sz z hn hz
     injection htr with htr; subst htr
     exact op_clear hr ho hc e1 e2 hd hz hx hrun
    ·simp at htr
   ·simp at htr
  ·simp at htr
theorem keyKind_desc {kt : TypeId} {q : Option IntKind} (h : keyKind X kt = some q) : ∃ d, descT X kt = some d ∧ KeyDesc q d := by
 unfold keyKind at h
 split at h
 ·rename_i k hk
  injection h with h; subst h
  exact ⟨_, hk, rfl⟩
 ·rename_i hk
  injection h with h; subst h
  exact ⟨_, hk, rfl⟩
 ·simp at h
theorem op_sound (hinj : ∀ t1 t2 k, X.tnum t1 = some k → X.tnum t2 = some k → t1 = t2) {h : Hints} {dst : Nat} {aop : AOp} (hr : Rel X T a μ) (htr : trOp X h dst o.op = some aop) (hnc : aop.isCall = false)
  (hrun : (opAct E aop).run C ⟨T, μ.O⟩ = some (v, σ')) : σ'.T = T ∧ Done X o a μ σ'.O v := by
 cases hop : o.op <;> simp only [trOp, hop] at htr <;> try (simp at htr; done)
 case move x =>
  split at htr
  ·simp only [Option.map_eq_some_iff] at htr
   obtain ⟨y, h1, rfl⟩ := htr
   exact op_deep hr (.inl hop) h1 hrun
  ·split at htr
   ·simp only [Option.map_eq_some_iff] at htr
    obtain ⟨y, h1, rfl⟩ := htr
    exact op_frzM hr (.inl hop) h1 hrun
   ·exact op_mv hr (.inl hop) htr hrun
 case assign x =>
  split at htr
  ·simp only [Option.map_eq_some_iff] at htr
   obtain ⟨y, h1, rfl⟩ := htr
   exact op_deep hr (.inr hop) h1 hrun
  ·split at htr
   ·simp only [Option.map_eq_some_iff] at htr
    obtain ⟨y, h1, rfl⟩ := htr
    exact op_frzM hr (.inr hop) h1 hrun
   ·exact op_mv hr (.inr hop) htr hrun
 case pick c p q =>
  split at htr
  ·rename_i c' p' q' h1 h2 h3
   injection htr with htr; subst htr
   exact op_pick hr hop h1 h2 h3 hrun
  ·simp at htr
 case alloc t =>
  split at htr
  ·rename_i sz z h1 h2
   injection htr with htr; subst htr
   exact op_alloc _ hr hop h2 hrun
  ·simp at htr
 case box t x =>
  split at htr
  ·rename_i sz y h1 h2
   injection htr with htr; subst htr
   exact op_box _ hr hop h2 hrun
  ·simp at htr
 case build t ps =>
  split at htr
  ·rename_i z fs h1 h2
   split at htr
   ·simp at htr
   ·rename_i hall
    simp only [Option.map_eq_some_iff] at htr
    obtain ⟨as, h3, rfl⟩ := htr
    exact op_buildS _ hr hop h1 h2 (by revert hall; cases fs.toList.all (fun f => (sizeT X f.type).isSome) <;> simp) h3 hrun
  ·rename_i z n e h1 h2
   split at htr
   ·rename_i s hs
    simp only [Option.map_eq_some_iff] at htr
    obtain ⟨as, h3, rfl⟩ := htr
    exact op_buildA _ hr hop h1 h2 hs h3 hrun
   ·simp at htr
  ·simp at htr
 case buildSlice t n ps =>
  split at htr
  ·rename_i e hd
   split at htr
   ·rename_i sz z as h1 h2 h3
    injection htr with htr; subst htr
    split at hrun
    ·exact op_buildSliceD hr hop hd h1 h2 h3 hrun
    ·split at hrun
     ·exact op_buildSliceK hr hop hd h1 h2 h3 hrun
     ·exact op_buildSlice hr hop hd h1 h2 h3 hrun
   ·simp at htr
  ·simp at htr
 case load t x =>
  split at htr
  ·rename_i g sz y h1 h2 h3
   injection htr with htr; subst htr
   split at hrun
   ·exact op_load hr hop h3 h1 h2 hrun
   ·exact op_loadW _ hr hop h3 h1 h2 hrun
  ·simp at htr
 case store t x y =>
  split at htr
  ·rename_i g sz x' y' h1 h2 h3 h4
   injection htr with htr; subst htr
   exact op_store hr hop h3 h4 h2 hrun
  ·simp at htr
 case nilCheck x =>
  simp only [Option.map_eq_some_iff] at htr
  obtain ⟨y, h1, rfl⟩ := htr
  exact op_nilCheck hr hop h1 hrun
 case binOp op t x y t2 =>
  split at htr
  ·rename_i x' y' h1 h2
   unfold trBin at htr
   split at htr
   ·rename_i heq
    have hopk : op = .eql ∨ op = .neq := by cases op <;> simp [isEqOp] at heq <;> simp
    split at htr
    ·rename_i hd
     injection htr with htr; subst htr
     exact op_eqB hr hop hopk hd h1 h2 rfl hrun
    ·injection htr with htr; subst htr
     exact op_bin hr hop h1 h2 hrun
    ·injection htr with htr; subst htr
     exact op_bin hr hop h1 h2 hrun
    ·rename_i ms hd
     injection htr with htr; subst htr
     exact op_eqI hr hop hopk ⟨_, hd⟩ hinj h1 h2 rfl hrun
    ·rename_i fs hd
     split at htr
     ·rename_i hg
      simp only [Option.map_eq_some_iff] at htr
      obtain ⟨ks, h3, rfl⟩ := htr
      exact op_eqA hr hop hopk hg h3 ⟨_, hd⟩ h1 h2 rfl hrun
     ·simp at htr
    ·simp at htr
   ·injection htr with htr; subst htr
    exact op_bin hr hop h1 h2 hrun
  ·simp at htr
 case unOp op t x =>
  simp only [Option.map_eq_some_iff] at htr
  obtain ⟨y, h1, rfl⟩ := htr
  exact op_un hr hop h1 hrun
 case convert s d x =>
  split at htr
  ·rename_i k0 k y h1 h2 h3
   injection htr with htr; subst htr
   exact op_convInt hr hop h1 h2 h3 hrun
  ·rename_i k0 y h1 h2 h3
   injection htr with htr; subst htr
   exact op_convIF hr hop h1 h2 h3 hrun
  ·rename_i k y h1 h2 h3
   injection htr with htr; subst htr
   exact op_convFI hr hop h1 h2 h3 hrun
  ·rename_i y h1 h2 h3
   injection htr with htr; subst htr
   exact op_convStr hr hop h1 h2 h3 hrun
  ·simp at htr
 case makeInterface t x =>
  split at htr
  ·simp at htr
  ·rename_i n y d hne h1 h2 h3
   injection htr with htr; subst htr
   exact op_makeInterface hr hop h1 h2 ⟨_, h3, fun ms e => hne ms e⟩ hrun
  ·simp at htr
 case typeAssert x t0 t ok =>
  split at htr
  ·simp at htr
  ·rename_i n y z d hne h1 h2 h3 h4
   injection htr with htr; subst htr
   exact op_assert hr hop hinj h1 h2 h3 ⟨_, h4, fun ms e => hne ms e⟩ hrun
  ·simp at htr
 case makeFunc fn first caps =>
  cases fn <;> simp only at htr <;> try (simp at htr; done)
  split at htr
  ·rename_i hf
   split at htr
   ·rename_i n cs h1 h2
    injection htr with htr; subst htr
    exact op_makeFunc hr hop hf h1 h2 hrun
   ·simp at htr
  ·simp at htr
 case makeSlice t l c =>
  split at htr
  ·rename_i e hd
   split at htr
   ·rename_i sz i z l' c' h1 h2 h3 h4 h5
    injection htr with htr; subst htr
    exact op_makeSlice hr hop hd h1 h2 h3 h4 h5 hrun
   ·simp at htr
  ·simp at htr
 case slice t x lo hi mx =>
  split at htr
  ·rename_i e x' lo' hi' mx' hd h1 h2 h3 h4
   simp only [Option.map_eq_some_iff] at htr
   obtain ⟨sz, hn, rfl⟩ := htr
   exact op_slice hr hop hd hn h1 h2 h3 h4 hrun
  ·rename_i x' lo' hi' hd h1 h2 h3 h4
   injection htr with htr; subst htr
   have hmx : mx = none := by
    cases mx with
    | none => rfl
    | some m => simp [trOo] at h4
   subst hmx
   exact op_sliceStr hr hop hd h1 h2 h3 hrun
  ·simp at htr
 case fieldAddr s x i =>
  split at htr
  ·rename_i fs y hd h1
   split at htr
   ·rename_i f hf
    split at htr
    ·rename_i n hn
     injection htr with htr; subst htr
     exact op_fieldAddr hr hop h1 hd hf hn hrun
    ·simp at htr
   ·simp at htr
  ·simp at htr
 case field s x i =>
  split at htr
  ·rename_i fs y hd h1
   split at htr
   ·rename_i f hf
    split at htr
    ·rename_i g sz h2 h3
     injection htr with htr; subst htr
     exact op_field hr hop h1 hd hf h2 h3 hrun
    ·simp at htr
   ·simp at htr
  ·simp at htr
 case indexAddr t x i =>
  split at htr
  ·rename_i e x' i' hd h1 h2
   simp only [Option.map_eq_some_iff] at htr
   obtain ⟨sz, hn, rfl⟩ := htr
   exact op_indexAddr hr hop hd hn h1 h2 hrun
  ·rename_i n e x' i' hd h1 h2
   simp only [Option.map_eq_some_iff] at htr
   obtain ⟨sz, hn, rfl⟩ := htr
   exact op_indexArr hr hop hd hn h1 h2 hrun
  ·simp at htr
 case index t x i =>
  split at htr
  ·rename_i x' i' hd h1 h2
   injection htr with htr; subst htr
   exact op_indexStr hr hop hd h1 h2 hrun
  ·rename_i n e x' i' hd h1 h2
   split at htr
   ·rename_i g sz h3 h4
    injection htr with htr; subst htr
    exact op_indexVal hr hop hd h3 h4 h1 h2 hrun
   ·simp at htr
  ·simp at htr
 case extract x i =>
  simp only [Option.map_eq_some_iff] at htr
  obtain ⟨y, h1, rfl⟩ := htr
  exact op_extract hr hop h1 hrun
 case makeMap t rs =>
  cases rs with
  | some _ => simp at htr
  | none =>
   injection htr with htr; subst htr
   exact op_mkMap hr hop rfl hrun
 case range t x =>
  split at htr
  ·rename_i x' hd h1
   injection htr with htr; subst htr
   exact op_strIter hr hop hd h1 hrun
  ·simp at htr
 case next x isS =>
  cases isS with
  | false => simp at htr
  | true =>
   simp only [Option.map_eq_some_iff] at htr
   obtain ⟨y, h1, rfl⟩ := htr
   exact op_strNext hr hop h1 hrun
 case lookup t x i ok =>
  split at htr
  ·rename_i kt et x' i' hd h1 h2
   split at htr
   ·rename_i q z hq hz
    injection htr with htr; subst htr
    obtain ⟨d, hkd, hk⟩ := keyKind_desc hq
    exact op_mapGet hr hop hd hkd hk hz h1 h2 hrun
   ·simp at htr
  ·simp at htr
 case mapUpdate t m k v =>
  split at htr
  ·rename_i kt et m' k' v' hd h1 h2 h3
   simp only [Option.map_eq_some_iff] at htr
   obtain ⟨q, hq, rfl⟩ := htr
   obtain ⟨d, hkd, hk⟩ := keyKind_desc hq
   exact op_mapUpd hr (.inl hop) hd hkd hk h1 h2 h3 hrun
  ·simp at htr
 case insert t m k v =>
  split at htr
  ·rename_i kt et m' k' v' hd h1 h2 h3
   simp only [Option.map_eq_some_iff] at htr
   obtain ⟨q, hq, rfl⟩ := htr
   obtain ⟨d, hkd, hk⟩ := keyKind_desc hq
   exact op_mapUpd hr (.inr hop) hd hkd hk h1 h2 h3 hrun
  ·simp at htr
 case call c => exact call_sound hr hop htr hnc hrun
end
end Go.AM
namespace Go.AM
open Go Go.RowKit
def OpHyp (X : Ctx) (E : Env) (C : Oracle) : Prop := ∀ (h : Hints) (dst : Nat) (o : Oper) (aop : AOp) (a : Go.Act) (T : Nat → V) (μ : Mu) (v : V) (σ' : St), Rel X T a μ → trOp X h dst o.op = some aop →
 (opAct E aop).run C ⟨T, μ.O⟩ = some (v, σ') → σ'.T = T ∧ ∀ (next : Go.Act → World → Prop) (Q : Go.Exit → Go.Act → World → Prop),
  (∀ val w' φ', VRel X ⟨w', φ', σ'.O⟩ v val → Le μ ⟨w', φ', σ'.O⟩ → Objs X ⟨w', φ', σ'.O⟩ → next (a.put o.dst val) w') → o.wp X.P a μ.w next Q
structure Sim (X : Ctx) (μ0 : Mu) (n : Nat) (σ : St) (a : Go.Act) (w : World) : Prop where
 defers : a.defers = []
 size : a.tmps.size = n
 rel : ∃ φ, Rel X σ.T a ⟨w, φ, σ.O⟩ ∧ Le μ0 ⟨w, φ, σ.O⟩
section
variable {X : Ctx} {E : Env} {C : Oracle} {μ0 : Mu} {n : Nat}
theorem put_rel {T : Nat → V} {a : Go.Act} {μ μ' : Mu} {dst : Option Nat} {v : V} {val : Value} (hr : Rel X T a μ) (le : Le μ μ') (ho : Objs X μ') (hv : VRel X μ' v val) (hd : dst.all (· < a.tmps.size) = true) (O : Nat → Obj) :
  Rel X (St.put ⟨T, O⟩ dst v).T (a.put dst val) μ' := by
 refine ⟨fun t => ?_, ho⟩
 cases dst with
 | none => exact VRel.mono le (hr.tmps t)
 | some d =>
  simp at hd
  simp only [St.put, Go.Act.put, upd]
  split
  ·rename_i e
   subst e
   have : (a.tmps.setIfInBounds t val).getD t undef = val := by simp [hd]
   rw [this]; exact hv
  ·rename_i hne
   have : (a.tmps.setIfInBounds d val).getD t undef = a.tmps.getD t undef := by
    simp [Array.getElem?_setIfInBounds_ne (fun e => hne e.symm)]
   rw [this]; exact VRel.mono le (hr.tmps t)
theorem put_size (a : Go.Act) (dst : Option Nat) (v : Value) : (a.put dst v).tmps.size = a.tmps.size := by cases dst <;> simp [Go.Act.put]
theorem put_defers (a : Go.Act) (dst : Option Nat) (v : Value) : (a.put dst v).defers = a.defers := by cases dst <;> simp [Go.Act.put]
theorem undef_rel {μ : Mu} : VRel X μ undefV undef := by simp only [undefV, VRel]; exact ⟨#[], rfl, by simp [VRels]⟩
theorem oper_sound (H : OpHyp X E C) {h : Hints} {ops : Array Oper} {i : Nat} {o : Oper} {ao : AOper} {σ σ' : St} {a : Go.Act} {w : World} {K : Go.Act → World → Prop} {Q : Go.Exit → Go.Act → World → Prop}
  (ho : ops[i]? = some o) (htr : trOper X h ops o = some ao) (hn : h.n = n) (hs : Sim X μ0 n σ a w) (hrun : runOp E C ao σ = some σ') (hK : ∀ a' w', Sim X μ0 n σ' a' w' → K a' w') :
  wpOp X.P ops Q i K a w := by
 obtain ⟨hdef, hsz, φ, hr, hle⟩ := hs
 unfold trOper at htr
 simp only at htr
 split at htr
 ·rename_i g hg hdst
  injection htr with htr
  subst htr
  have hd : o.dst.all (· < a.tmps.size) = true := by rw [hsz, ← hn]; exact hdst
  simp only [runOp] at hrun
  split at hrun
  ·rename_i v σ1 hact
   injection hrun with hrun
   subst hrun
   have runs : (opAct E ((trOp X h (o.dst.getD 0) o.op).getD .bad)).run C σ = some (v, σ1) → o.wp X.P a w K Q := fun hop => by
    cases htop : trOp X h (o.dst.getD 0) o.op with
    | none => rw [htop] at hop; exact absurd hop run_bad
    | some aop =>
     rw [htop] at hop
     obtain ⟨hT, hwp⟩ := H h _ o aop a σ.T ⟨w, φ, σ.O⟩ v σ1 hr htop hop
     refine hwp K Q fun val w' φ' hv le hobj => hK _ _ ⟨by rw [put_defers]; exact hdef, by rw [put_size]; exact hsz, φ', ?_, ?_⟩
     ·have := put_rel hr le hobj hv hd σ1.O
      rw [← hT] at this
      have e : (σ1.put o.dst v).O = σ1.O := by cases o.dst <;> rfl
      rw [e]; exact this
     ·have e : (σ1.put o.dst v).O = σ1.O := by cases o.dst <;> rfl
      rw [e]; exact hle.trans le
   have skips : v = undefV → σ1 = σ → K (a.put o.dst undef) w := fun hv hσ => by
    subst hv; subst hσ
    refine hK _ _ ⟨by rw [put_defers]; exact hdef, by rw [put_size]; exact hsz, φ, ?_, ?_⟩
    ·have := put_rel hr (Le.refl _) hr.objs undef_rel hd σ1.O
     have e : (σ1.put o.dst undefV).O = σ1.O := by cases o.dst <;> rfl
     rw [e]; exact this
    ·have e : (σ1.put o.dst undefV).O = σ1.O := by cases o.dst <;> rfl
     rw [e]; exact hle
   simp only [wpOp, ho]
   cases hgd : o.guard with
   | none =>
    rw [hgd] at hg
    injection hg with hg
    subst hg
    rw [if_pos (by simp [Region.wanted, hgd])]
    exact .inl (runs (by simpa [operAct] using hact))
   | some gw =>
    obtain ⟨j, want⟩ := gw
    rw [hgd] at hg
    simp only at hg
    split at hg
    ·rename_i d hdj
     injection hg with hg
     subst hg
     simp only [operAct, Act.run] at hact
     have hv := hr.tmps d
     split at hact
     ·rename_i b hb
      rw [hb] at hv
      simp only [VRel] at hv
      have hlt : d < a.tmps.size := by
       rcases Nat.lt_or_ge d a.tmps.size with hl | hl
       ·exact hl
       ·simp [Array.getElem?_eq_none hl, undef] at hv
      have hgd2 : a.tmps[d]? = some (.bool b) := by
       rw [Array.getElem?_eq_getElem hlt]
       simp [Array.getElem?_eq_getElem hlt] at hv
       rw [hv]
      have hy : yielded ops a.tmps j = some b := by simp [yielded, hdj, hgd2]
      split at hact
      ·rename_i hbw
       rw [if_pos (by simp [Region.wanted, hgd, hy, hbw])]
       exact .inl (runs hact)
      ·rename_i hbw
       rw [if_neg (by simp [Region.wanted, hgd, hy, hbw])]
       obtain ⟨e1, e2⟩ := run_done hact
       exact skips e1.symm e2
     ·rename_i hb
      rw [hb] at hv
      simp only [VRel] at hv
      obtain ⟨vs, hvs, hv0⟩ := hv
      have hy : yielded ops a.tmps j = none := by
       simp only [yielded, hdj, Option.bind_some]
       cases hq : a.tmps[d]? with
       | none => rfl
       | some x =>
        have : x = .tuple vs := by simpa [hq] using hvs
        rw [this]
      rw [if_neg (by simp [Region.wanted, hgd, hy])]
      obtain ⟨e1, e2⟩ := run_done hact
      exact skips e1.symm e2
     ·exact absurd hact run_fail
    ·simp at hg
  ·simp at hrun
 ·simp at htr
theorem trOpers_get {h : Hints} {ops : Array Oper} : ∀ {l : List Oper} {as : List AOper}, trOpers X h ops l = some as → as.length = l.length ∧ ∀ (i : Nat) o, l[i]? = some o → ∃ ao, as[i]? = some ao ∧ trOper X h ops o = some ao
 | [], as, h' => by simp [trOpers] at h'; subst h'; simp
 | o :: l, as, h' => by
  simp only [trOpers] at h'
  split at h'
  ·rename_i ao as' h1 h2
   injection h' with h'; subst h'
   obtain ⟨k1, k2⟩ := trOpers_get h2
   refine ⟨by simp [k1], fun i o' hi => ?_⟩
   cases i with
   | zero => simp at hi; subst hi; exact ⟨ao, by simp, h1⟩
   | succ i => simpa using k2 i o' (by simpa using hi)
  ·simp at h'
theorem runOp_pre {ao : AOper} {σ : St} {p : List Nat} : runOp E C { ao with pre := p } σ = runOp E C ao σ := rfl
theorem region_sound (H : OpHyp X E C) {h : Hints} {ops : Array Oper} {as : List AOper} (hn : h.n = n) (htr : trOpers X h ops ops.toList = some as) {Q : Go.Exit → Go.Act → World → Prop} :
  ∀ (m k : Nat), k + m = ops.size → ∀ {σ σ' : St} {a : Go.Act} {w : World}, Sim X μ0 n σ a w → runOps E C ((as.drop k).map fun o => { o with pre := [] }) σ = some σ' →
   (∀ a' w', Sim X μ0 n σ' a' w' → Q .normal a' w') → wpOps X.P ops Q (List.range' k m) a w
 | 0, k, hk, σ, σ', a, w, hs, hrun, hQ => by
  obtain ⟨hl, _⟩ := trOpers_get htr
  have : as.drop k = [] := by simp at hl; simp; omega
  rw [this] at hrun
  simp [runOps] at hrun
  subst hrun
  simpa [wpOps] using hQ a w hs
 | m + 1, k, hk, σ, σ', a, w, hs, hrun, hQ => by
  obtain ⟨hl, hget⟩ := trOpers_get htr
  have hkl : k < ops.size := by omega
  obtain ⟨ao, hao, htro⟩ := hget k ops[k] (by simp [hkl])
  have hka : k < as.length := by simp at hl; omega
  have hd : as.drop k = ao :: as.drop (k + 1) := by
   rw [List.drop_eq_getElem_cons hka]
   rw [List.getElem?_eq_getElem hka] at hao
   injection hao with hao; rw [hao]
  rw [hd] at hrun
  simp only [List.map_cons, runOps, runOp_pre] at hrun
  split at hrun
  ·rename_i σ1 h1
   rw [List.range'_succ, wpOps_cons]
   refine oper_sound H (o := ops[k]) (by simp [hkl]) htro hn hs h1 fun a' w' hs' => ?_
   exact region_sound H hn htr m (k + 1) (by omega) hs' hrun hQ
  ·simp at hrun
end
end Go.AM
namespace Go.AM
open Go Go.RowKit
inductive Cell where
 | v (x : V)
 | o (x : Obj)
def St.at (σ : St) : Loc → Cell
 | .t n => .v (σ.T n)
 | .o n => .o (σ.O n)
theorem St.ext' {σ τ : St} (h : ∀ l, σ.at l = τ.at l) : σ = τ := by
 cases σ; cases τ
 congr
 ·funext n; have := h (.t n); simpa [St.at] using this
 ·funext n; have := h (.o n); simpa [St.at] using this
theorem run_frame {C : Oracle} : ∀ (act : Act) {σ τ σ' : St} {v : V}, act.run C σ = some (v, σ') → (∀ l ∈ (act.foot C σ).reads, σ.at l = τ.at l) →
  ∃ τ', act.run C τ = some (v, τ') ∧ act.foot C τ = act.foot C σ ∧ ∀ l, (l ∈ (act.foot C σ).writes → τ'.at l = σ'.at l) ∧ (l ∉ (act.foot C σ).writes → τ'.at l = τ.at l ∧ σ'.at l = σ.at l)
 | .done u, σ, τ, σ', v, h, _ => by
  simp only [Act.run, Option.some.injEq, Prod.mk.injEq] at h
  obtain ⟨rfl, rfl⟩ := h
  exact ⟨τ, rfl, rfl, fun l => ⟨fun hl => by simp [Act.foot] at hl, fun _ => ⟨rfl, rfl⟩⟩⟩
 | .fail, _, _, _, _, h, _ => by simp [Act.run] at h
 | .getT t k, σ, τ, σ', v, h, hr => by
  simp only [Act.run] at h
  have e : σ.T t = τ.T t := by have := hr (.t t) (by simp [Act.foot]); simpa [St.at] using this
  obtain ⟨τ', h1, h2, h3⟩ := run_frame (k (σ.T t)) h (fun l hl => hr l (by simp [Act.foot, hl]))
  exact ⟨τ', by simp only [Act.run, ← e]; exact h1, by simp only [Act.foot, ← e, h2], by simpa [Act.foot] using h3⟩
 | .getO r k, σ, τ, σ', v, h, hr => by
  simp only [Act.run] at h
  have e : σ.O r = τ.O r := by have := hr (.o r) (by simp [Act.foot]); simpa [St.at] using this
  obtain ⟨τ', h1, h2, h3⟩ := run_frame (k (σ.O r)) h (fun l hl => hr l (by simp [Act.foot, hl]))
  exact ⟨τ', by simp only [Act.run, ← e]; exact h1, by simp only [Act.foot, ← e, h2], by simpa [Act.foot] using h3⟩
 | .setO r o k, σ, τ, σ', v, h, hr => by
  simp only [Act.run] at h
  obtain ⟨τ', h1, h2, h3⟩ := run_frame k (τ := { τ with O := upd τ.O r o }) h (fun l hl => by
   have := hr l (by simp [Act.foot, hl])
   cases l with
   | t n => simpa [St.at] using this
   | o n =>
    simp only [St.at, Cell.o.injEq] at this ⊢
    by_cases hn : n = r
    ·subst hn; simp [upd_same]
    ·simp [upd_ne _ _ hn, this])
  refine ⟨τ', by simp only [Act.run]; exact h1, by simp only [Act.foot, h2], fun l => ⟨fun hl => ?_, fun hl => ?_⟩⟩
  ·simp only [Act.foot, List.mem_cons] at hl
   by_cases hw : l ∈ (k.foot C { σ with O := upd σ.O r o }).writes
   ·exact (h3 l).1 hw
   ·obtain ⟨e1, e2⟩ := (h3 l).2 hw
    rcases hl with rfl | hl
    ·rw [e1, e2]; simp [St.at, upd_same]
    ·exact absurd hl hw
  ·simp only [Act.foot, List.mem_cons, not_or] at hl
   obtain ⟨e1, e2⟩ := (h3 l).2 hl.2
   rw [e1, e2]
   cases l with
   | t n => simp [St.at]
   | o n =>
    have hn : n ≠ r := fun e => hl.1 (by rw [e])
    simp [St.at, upd_ne _ _ hn]
 | .call f as k, σ, τ, σ', v, h, hr => by
  simp only [Act.run] at h
  split at h
  ·rename_i res hres
   obtain ⟨τ', h1, h2, h3⟩ := run_frame (k res) h (fun l hl => hr l (by simp [Act.foot, hres, hl]))
   exact ⟨τ', by simp only [Act.run, hres]; exact h1, by simp only [Act.foot, hres, h2], by simpa [Act.foot, hres] using h3⟩
  ·simp at h
theorem put_at (σ : St) (dst : Option Nat) (v : V) (l : Loc) : (σ.put dst v).at l = if dst.any (fun d => l = .t d) then .v v else σ.at l := by
 cases dst with
 | none => simp [St.put]
 | some d =>
  cases l with
  | t n =>
   simp only [St.put, St.at, upd, Option.any_some, Loc.t.injEq]
   by_cases h : n = d <;> simp [h]
  | o n => simp [St.put, St.at]
theorem runOp_frame {E : Env} {C : Oracle} {o : AOper} {σ τ σ' : St} (h : runOp E C o σ = some σ') (hr : ∀ l ∈ (operFoot E C o σ).reads, σ.at l = τ.at l) :
  ∃ τ', runOp E C o τ = some τ' ∧ ∀ l, (l ∈ (operFoot E C o σ).writes → τ'.at l = σ'.at l) ∧ (l ∉ (operFoot E C o σ).writes → τ'.at l = τ.at l ∧ σ'.at l = σ.at l) := by
 simp only [runOp] at h
 split at h
 ·rename_i v σ1 hact
  injection h with h
  subst h
  obtain ⟨τ1, h1, h2, h3⟩ := run_frame (operAct E o) hact hr
  refine ⟨τ1.put o.dst v, by simp only [runOp, h1], fun l => ?_⟩
  rw [put_at, put_at]
  have hw : (operFoot E C o σ).writes = (match o.dst with | some d => [Loc.t d] | none => []) ++ ((operAct E o).foot C σ).writes := rfl
  rw [hw]
  cases hd : o.dst with
  | none => simpa using h3 l
  | some d =>
   by_cases hl : l = .t d
   ·subst hl; simp
   ·refine ⟨fun hm => ?_, fun hm => ?_⟩
    ·simp [hl] at hm
     simp [hl]
     exact (h3 l).1 hm
    ·simp [hl] at hm
     simp [hl]
     exact (h3 l).2 hm
 ·simp at h
structure Trace (E : Env) (C : Oracle) (as : List AOper) (S : Nat → St) (F : Nat → Foot) (W : Nat → List Nat) : Prop where
 step : ∀ (i : Nat) ao, as[i]? = some ao → runOp E C ao (S i) = some (S (i + 1)) ∧ F i = operFoot E C ao (S i) ∧ W i = ao.pre ++ ao.pre.flatMap W ∧ (∀ p ∈ ao.pre, p < i) ∧
  ∀ j, j < i → j ∈ W i ∨ (F j).clash (F i) = false
theorem fits_all {feet : List Foot} {wait : List Nat} {f : Foot} : ∀ {k : Nat}, fits feet wait f k = true → ∀ j, j < k → j ∈ wait ∨ (feet.getD j ⟨[], []⟩).clash f = false
 | 0, _, j, hj => by omega
 | k + 1, h, j, hj => by
  simp only [fits, Bool.and_eq_true, Bool.or_eq_true, Bool.not_eq_true'] at h
  by_cases e : j = k
  ·subst e
   rcases h.1 with h1 | h1
   ·exact .inl (by simpa using h1)
   ·exact .inr h1
  ·exact fits_all h.2 j (by omega)
theorem flatMap_congr' {α β : Type} {f g : α → List β} : ∀ {l : List α}, (∀ x ∈ l, f x = g x) → l.flatMap f = l.flatMap g
 | [], _ => rfl
 | x :: l, h => by
  simp only [List.flatMap_cons]
  rw [h x (by simp), flatMap_congr' fun y hy => h y (by simp [hy])]
theorem drawn_trace {E : Env} {C : Oracle} : ∀ (l : List AOper) (feet : List Foot) (before : List (List Nat)) (σ σ' : St), feet.length = before.length → runDrawn E C l feet before σ = some σ' →
  ∃ (S : Nat → St) (F : Nat → Foot) (W : Nat → List Nat), S feet.length = σ ∧ S (feet.length + l.length) = σ' ∧ (∀ k, k < feet.length → F k = feet.getD k ⟨[], []⟩ ∧ W k = before.getD k []) ∧
   ∀ (i : Nat) ao, l[i]? = some ao → runOp E C ao (S (feet.length + i)) = some (S (feet.length + i + 1)) ∧ F (feet.length + i) = operFoot E C ao (S (feet.length + i)) ∧
    W (feet.length + i) = ao.pre ++ ao.pre.flatMap W ∧ (∀ p ∈ ao.pre, p < feet.length + i) ∧ ∀ j, j < feet.length + i → j ∈ W (feet.length + i) ∨ (F j).clash (F (feet.length + i)) = false
 | [], feet, before, σ, σ', hl, h => by
  simp only [runDrawn, Option.some.injEq] at h
  subst h
  exact ⟨fun _ => σ, fun k => feet.getD k ⟨[], []⟩, fun k => before.getD k [], rfl, rfl, fun k _ => ⟨rfl, rfl⟩, fun i ao hi => by simp at hi⟩
 | o :: l, feet, before, σ, σ', hl, h => by
  simp only [runDrawn] at h
  split at h
  ·rename_i hf
   simp only [Bool.and_eq_true, List.all_eq_true, decide_eq_true_eq] at hf
   split at h
   ·rename_i σ1 h1
    obtain ⟨S, F, W, s1, s2, s3, s4⟩ := drawn_trace l (feet ++ [operFoot E C o σ]) (before ++ [closure before o.pre]) σ1 σ' (by simp [hl]) h
    simp only [List.length_append, List.length_singleton] at s1 s2 s3 s4
    let S' : Nat → St := fun k => if k = feet.length then σ else S k
    have e1 : S' (feet.length + 1) = σ1 := by simp [S', s1]
    have e2 : ∀ k, feet.length < k → S' k = S k := fun k hk => by simp [S']; intro e; omega
    have hFk : F feet.length = operFoot E C o σ := by
     have := (s3 feet.length (by omega)).1
     simpa using this
    have hWk : W feet.length = closure before o.pre := by
     have := (s3 feet.length (by omega)).2
     rw [hl] at this
     simpa [hl] using this
    have hWlt : ∀ k, k < feet.length → W k = before.getD k [] := fun k hk => by
     have := (s3 k (by omega)).2
     rw [this]
     simp [List.getElem?_append_left (show k < before.length by omega)]
    have hFlt : ∀ k, k < feet.length → F k = feet.getD k ⟨[], []⟩ := fun k hk => by
     have := (s3 k (by omega)).1
     rw [this]
     simp [List.getElem?_append_left hk]
    refine ⟨S', F, W, by simp [S'], ?_, fun k hk => ⟨hFlt k hk, hWlt k hk⟩, fun i ao hi => ?_⟩
    ·rw [e2 _ (by simp)]
     rw [← s2]; congr 1; simp; omega
    ·cases i with
     | zero =>
      simp at hi
      subst hi
      simp only [Nat.add_zero]
      have hS : S' feet.length = σ := by simp [S']
      rw [hS, e1]
      refine ⟨h1, hFk, ?_, hf.2, fun j hj => ?_⟩
      ·rw [hWk, closure]
       congr 1
       apply flatMap_congr'
       intro p hp
       exact (hWlt p (hf.2 p hp)).symm
      ·rw [hFk, hWk, hFlt j hj]
       exact fits_all hf.1 j hj
     | succ i =>
      have := s4 i ao (by simpa using hi)
      have ea : feet.length + 1 + i = feet.length + (i + 1) := by omega
      rw [ea] at this
      rw [e2 _ (by omega), e2 _ (by omega)]
      exact this
   ·simp at h
  ·simp at h
def hist (S : Nat → St) (F : Nat → Foot) (D : Nat → Bool) (l : Loc) : Nat → Cell
 | 0 => (S 0).at l
 | i + 1 => if D i = true ∧ l ∈ (F i).writes then (S (i + 1)).at l else hist S F D l i
theorem hist_congr {S : Nat → St} {F : Nat → Foot} {D D' : Nat → Bool} {l : Loc} : ∀ {n : Nat}, (∀ i, i < n → l ∈ (F i).writes → D i = D' i) → hist S F D l n = hist S F D' l n
 | 0, _ => rfl
 | n + 1, h => by
  simp only [hist]
  rw [hist_congr fun i hi => h i (by omega)]
  by_cases hl : l ∈ (F n).writes
  ·rw [h n (by omega) hl]
  ·simp [hl]
theorem hist_stop {S : Nat → St} {F : Nat → Foot} {D : Nat → Bool} {l : Loc} {m : Nat} : ∀ {n : Nat}, m ≤ n → (∀ i, m ≤ i → i < n → l ∈ (F i).writes → D i = false) → hist S F D l n = hist S F D l m
 | 0, h, _ => by have : m = 0 := by omega
                 subst this; rfl
 | n + 1, h, hh => by
  by_cases e : m = n + 1
  ·subst e; rfl
  ·simp only [hist]
   rw [if_neg (by rintro ⟨h1, h2⟩; have := hh n (by omega) (by omega) h2; simp [this] at h1)]
   exact hist_stop (by omega) fun i h1 h2 => hh i h1 (by omega)
theorem hist_all {E : Env} {C : Oracle} {as : List AOper} {S : Nat → St} {F : Nat → Foot} {W : Nat → List Nat} (tr : Trace E C as S F W) {D : Nat → Bool} {l : Loc} :
  ∀ {n : Nat}, n ≤ as.length → (∀ i, i < n → D i = true) → hist S F D l n = (S n).at l
 | 0, _, _ => rfl
 | n + 1, hn, hD => by
  obtain ⟨ao, hao⟩ : ∃ ao, as[n]? = some ao := ⟨as[n], List.getElem?_eq_getElem (by omega)⟩
  obtain ⟨h1, h2, _⟩ := tr.step n ao hao
  simp only [hist, hD n (by omega), true_and]
  split
  ·rfl
  ·rename_i hl
   rw [hist_all tr (by omega) fun i hi => hD i (by omega)]
   obtain ⟨_, _, h3⟩ := runOp_frame h1 (τ := S n) fun _ _ => rfl
   rw [h2] at hl
   exact ((h3 l).2 hl).2.symm
theorem clash_of {a b : Foot} {l : Loc} (h : (l ∈ a.writes ∧ l ∈ b.writes) ∨ (l ∈ a.writes ∧ l ∈ b.reads) ∨ (l ∈ a.reads ∧ l ∈ b.writes)) : a.clash b = true := by
 simp only [Foot.clash, meets, Bool.or_eq_true, List.any_eq_true, List.contains_iff_mem]
 rcases h with ⟨h1, h2⟩ | ⟨h1, h2⟩ | ⟨h1, h2⟩
 ·exact .inl (.inl ⟨l, h1, h2⟩)
 ·exact .inl (.inr ⟨l, h1, h2⟩)
 ·exact .inr ⟨l, h1, h2⟩
structure AnyOrder (S : Nat → St) (F : Nat → Foot) (W : Nat → List Nat) (m : Nat) (D : Nat → Bool) (τ : St) : Prop where
 closed : ∀ i, D i = true → ∀ p ∈ W i, D p = true
 state : ∀ l, τ.at l = hist S F D l m
theorem anyOrder_step {E : Env} {C : Oracle} {as : List AOper} {S : Nat → St} {F : Nat → Foot} {W : Nat → List Nat} (tr : Trace E C as S F W) {D : Nat → Bool} {τ : St} (hA : AnyOrder S F W as.length D τ)
  {j : Nat} {ao : AOper} (hj : as[j]? = some ao) (hD : D j = false) (hpre : ∀ p ∈ ao.pre, D p = true) :
  ∃ τ', runOp E C ao τ = some τ' ∧ AnyOrder S F W as.length (fun i => i == j || D i) τ' := by
 obtain ⟨h1, h2, h3, h4, h5⟩ := tr.step j ao hj
 have hjl : j < as.length := (List.getElem?_eq_some_iff.1 hj).1
 have hW : ∀ p ∈ W j, D p = true := by
  rw [h3]
  intro p hp
  simp only [List.mem_append, List.mem_flatMap] at hp
  rcases hp with hp | ⟨q, hq, hp⟩
  ·exact hpre p hp
  ·exact hA.closed q (hpre q hq) p hp
 have key : ∀ i, i ≠ j → i < as.length → (F i).clash (F j) = true ∨ (F j).clash (F i) = true → (D i = true ↔ i < j) := by
  intro i hne hi hc
  rcases Nat.lt_or_ge i j with hlt | hge
  ·refine ⟨fun _ => hlt, fun _ => ?_⟩
   rcases h5 i hlt with h | h
   ·exact hW i h
   ·rcases hc with hc | hc
    ·rw [h] at hc; cases hc
    ·exfalso
     have : (F i).clash (F j) = true := by
      simp only [Foot.clash, Bool.or_eq_true, meets, List.any_eq_true, List.contains_iff_mem] at hc ⊢
      rcases hc with (⟨l, a, b⟩ | ⟨l, a, b⟩) | ⟨l, a, b⟩
      ·exact .inl (.inl ⟨l, b, a⟩)
      ·exact .inr ⟨l, b, a⟩
      ·exact .inl (.inr ⟨l, b, a⟩)
     rw [h] at this; cases this
  ·have hgt : j < i := by omega
   refine ⟨fun hDi => ?_, fun h => by omega⟩
   obtain ⟨ao', hao'⟩ : ∃ ao', as[i]? = some ao' := ⟨as[i], List.getElem?_eq_getElem hi⟩
   obtain ⟨_, _, _, _, g5⟩ := tr.step i ao' hao'
   rcases g5 j hgt with h | h
   ·have := hA.closed i hDi j h
    rw [hD] at this; cases this
   ·exfalso
    rcases hc with hc | hc
    ·have : (F j).clash (F i) = true := by
      simp only [Foot.clash, Bool.or_eq_true, meets, List.any_eq_true, List.contains_iff_mem] at hc ⊢
      rcases hc with (⟨l, a, b⟩ | ⟨l, a, b⟩) | ⟨l, a, b⟩
      ·exact .inl (.inl ⟨l, b, a⟩)
      ·exact .inr ⟨l, b, a⟩
      ·exact .inl (.inr ⟨l, b, a⟩)
     rw [h] at this; cases this
    ·rw [h] at hc; cases hc
 have agree : ∀ l ∈ (F j).reads, (S j).at l = τ.at l := by
  intro l hl
  rw [hA.state l]
  have e1 : hist S F D l as.length = hist S F D l j := hist_stop (by omega) fun i hi1 hi2 hw => by
   by_cases e : i = j
   ·subst e; exact hD
   ·have := key i e hi2 (.inl (clash_of (.inr (.inl ⟨hw, hl⟩))))
    cases hDi : D i with
    | false => rfl
    | true => have := this.1 hDi; omega
  have e2 : hist S F D l j = hist S F (fun i => decide (i < j)) l j := hist_congr fun i hi hw => by
   have := (key i (by omega) (by omega) (.inl (clash_of (.inr (.inl ⟨hw, hl⟩))))).2 hi
   simp [this, hi]
  rw [e1, e2]
  exact (hist_all tr (by omega) fun i hi => by simp [hi]).symm
 rw [h2] at agree
 obtain ⟨τ', k1, k2⟩ := runOp_frame h1 agree
 rw [← h2] at k2
 refine ⟨τ', k1, fun i hi p hp => ?_, fun l => ?_⟩
 ·simp only [Bool.or_eq_true, beq_iff_eq] at hi ⊢
  rcases hi with rfl | hi
  ·exact .inr (hW p hp)
  ·exact .inr (hA.closed i hi p hp)
 ·by_cases hl : l ∈ (F j).writes
  ·rw [(k2 l).1 hl]
   have e1 : hist S F (fun i => i == j || D i) l as.length = hist S F (fun i => i == j || D i) l (j + 1) := hist_stop (by omega) fun i hi1 hi2 hw => by
    have hne : i ≠ j := by omega
    have := key i hne hi2 (.inl (clash_of (.inl ⟨hw, hl⟩)))
    cases hDi : D i with
    | false => simp [hne, hDi]
    | true => have := this.1 hDi; omega
   rw [e1]
   simp [hist, hl]
  ·rw [((k2 l).2 hl).1, hA.state l]
   exact hist_congr fun i _ hw => by
    by_cases e : i = j
    ·subst e; exact absurd hw hl
    ·simp [e]
theorem anyOrder_end {E : Env} {C : Oracle} {as : List AOper} {S : Nat → St} {F : Nat → Foot} {W : Nat → List Nat} (tr : Trace E C as S F W) {D : Nat → Bool} {τ : St} (hA : AnyOrder S F W as.length D τ)
  (hall : ∀ i, i < as.length → D i = true) : τ = S as.length :=
 St.ext' fun l => by rw [hA.state l, hist_all tr (Nat.le_refl _) hall]
section
variable {X : Ctx} {E : Env} {C : Oracle} {μ0 : Mu} {n : Nat}
theorem drew_sim {σ : St} {a : Go.Act} {w : World} (h : Sim X μ0 n σ a w) : Sim X μ0 n σ a { w with drawn := w.drawn + 1 } := by
 obtain ⟨h1, h2, φ, hr, hle⟩ := h
 obtain ⟨led, hod⟩ := Le.drew (X := X) (μ := ⟨w, φ, σ.O⟩) hr.objs
 exact ⟨h1, h2, φ, ⟨fun t => VRel.mono led (hr.tmps t), hod⟩, hle.trans led⟩
theorem any_sound (H : OpHyp X E C) {h : Hints} {ops : Array Oper} {as : List AOper} (hn : h.n = n) (htr : trOpers X h ops ops.toList = some as) {S : Nat → St} {F : Nat → Foot} {W : Nat → List Nat}
  (tr : Trace E C as S F W) {Q : Go.Exit → Go.Act → World → Prop} (hQ : ∀ a w, Sim X μ0 n (S as.length) a w → Q .normal a w) :
  ∀ (fuel : Nat) (listed : Array Bool) (τ : St) (a : Go.Act) (w : World), listed.size = ops.size → ((List.range ops.size).filter fun i => !listed.getD i true).length ≤ fuel →
   AnyOrder S F W as.length (fun i => listed.getD i false) τ → Sim X μ0 n τ a w → wpAny X.P .any ops Q fuel listed a w := by
 obtain ⟨hlen, hget⟩ := trOpers_get htr
 have hlen' : as.length = ops.size := by simpa using hlen
 have ready : ∀ (listed : Array Bool) (j : Nat), j ∈ Region.ready .any ops listed → ∃ o ao, ops[j]? = some o ∧ as[j]? = some ao ∧ trOper X h ops o = some ao ∧ listed.getD j true = false ∧ ∀ p ∈ ao.pre, listed.getD p false = true := by
  intro listed j hj
  simp only [Region.ready, List.mem_filter, List.mem_range, Bool.and_eq_true, Bool.not_eq_true'] at hj
  obtain ⟨hlt, hl, hr⟩ := hj
  have ho : ops[j]? = some ops[j] := by simp [hlt]
  obtain ⟨ao, hao, htro⟩ := hget j ops[j] (by simp [hlt])
  refine ⟨_, ao, ho, hao, htro, hl, fun p hp => ?_⟩
  rw [ho] at hr
  simp only [Option.map_some, Option.getD_some] at hr
  have hpre : ao.pre = (ops[j].after.toList.filter (Region.binds .any)).map (·.on) := by
   unfold trOper at htro
   simp only at htro
   split at htro
   ·injection htro with htro; rw [← htro]
   ·simp at htro
  rw [hpre] at hp
  simp only [List.mem_map, List.mem_filter] at hp
  obtain ⟨e, ⟨he1, he2⟩, rfl⟩ := hp
  rw [Array.all_eq_true'] at hr
  have := hr e (by simpa using he1)
  simpa [he2] using this
 have done : ∀ (listed : Array Bool), Region.ready .any ops listed = [] → listed.size = ops.size → ∀ i, i < as.length → listed.getD i false = true := by
  intro listed hnil hsz i
  induction i using Nat.strongRecOn with
  | _ i ih =>
   intro hi
   cases hl : listed.getD i false with
   | true => rfl
   | false =>
    exfalso
    have hlt : i < ops.size := by omega
    have hlt2 : i < listed.size := by omega
    have hlT : listed.getD i true = false := by simpa [hlt2] using hl
    obtain ⟨ao, hao, htro⟩ := hget i ops[i] (by simp [hlt])
    obtain ⟨_, _, _, hpl, _⟩ := tr.step i ao hao
    have hpre : ao.pre = (ops[i].after.toList.filter (Region.binds .any)).map (·.on) := by
     unfold trOper at htro
     simp only at htro
     split at htro
     ·injection htro with htro; rw [← htro]
     ·simp at htro
    have : i ∈ Region.ready .any ops listed := by
     simp only [Region.ready, List.mem_filter, List.mem_range, Bool.and_eq_true, Bool.not_eq_true']
     refine ⟨hlt, hlT, ?_⟩
     have ho : ops[i]? = some ops[i] := by simp [hlt]
     rw [ho]
     simp only [Option.map_some, Option.getD_some]
     rw [Array.all_eq_true']
     intro e he
     cases hb : Region.binds .any e with
     | false => simp
     | true =>
      have hm : e.on ∈ ao.pre := by
       rw [hpre]; simp only [List.mem_map, List.mem_filter]
       exact ⟨e, ⟨by simpa using he, hb⟩, rfl⟩
      have h1 := hpl _ hm
      simpa using ih e.on h1 (by omega)
    rw [hnil] at this
    cases this
 have finish : ∀ (listed : Array Bool) (τ : St) (a : Go.Act) (w : World), listed.size = ops.size → AnyOrder S F W as.length (fun i => listed.getD i false) τ → Sim X μ0 n τ a w → Region.ready .any ops listed = [] → Q .normal a w := by
  intro listed τ a w hsz hA hs hnil
  have := anyOrder_end tr hA (done listed hnil hsz)
  exact hQ a w (this ▸ hs)
 intro fuel
 induction fuel with
 | zero =>
  intro listed τ a w hsz hf hA hs
  have hnil : Region.ready .any ops listed = [] := by
   simp only [Nat.le_zero, List.length_eq_zero_iff, List.filter_eq_nil_iff, List.mem_range] at hf
   simp only [Region.ready, List.filter_eq_nil_iff, List.mem_range]
   intro i hi
   have := hf i hi
   simp at this
   simp [this]
  exact ⟨hnil, finish listed τ a w hsz hA hs hnil⟩
 | succ fuel ih =>
  intro listed τ a w hsz hf hA hs
  refine ⟨finish listed τ a w hsz hA hs, fun j hj => ?_⟩
  obtain ⟨o, ao, ho, hao, htro, hl, hpre⟩ := ready listed j hj
  have hjl : j < ops.size := by rw [← hlen']; exact (List.getElem?_eq_some_iff.1 hao).1
  have hlF : listed.getD j false = false := by
   have h1 : j < listed.size := by omega
   simpa [h1] using hl
  obtain ⟨τ', k1, k2⟩ := anyOrder_step tr hA hao hlF hpre
  refine oper_sound H ho htro hn hs k1 fun a' w' hs' => ih _ τ' a' w' (by simpa using hsz) ?_ ?_ hs'
  ·
   have hsub : ∀ (L : List Nat), L.Nodup → j ∈ L → (L.filter fun i => !(listed.setIfInBounds j true).getD i true).length + 1 ≤ (L.filter fun i => !listed.getD i true).length := by
    intro L
    induction L with
    | nil => intro _ h; cases h
    | cons x L ihL =>
     intro hnd hm
     have hne : ∀ i, i ≠ j → (listed.setIfInBounds j true).getD i true = listed.getD i true := fun i hi => by
      simp [Array.getElem?_setIfInBounds_ne (fun e => hi e.symm)]
     have hjt : (listed.setIfInBounds j true).getD j true = true := by
      have h1 : j < listed.size := by omega
      simp [h1]
     by_cases e : x = j
     ·subst e
      have hrest : (L.filter fun i => !(listed.setIfInBounds x true).getD i true) = L.filter fun i => !listed.getD i true := by
       apply List.filter_congr
       intro i hi
       have : i ≠ x := fun e => by rw [List.nodup_cons] at hnd; exact hnd.1 (e ▸ hi)
       rw [hne i this]
      simp only [List.filter_cons, hjt, hl, hrest]
      simp
     ·have hm' : j ∈ L := by
       rcases List.mem_cons.1 hm with h1 | h1
       ·exact absurd h1.symm e
       ·exact h1
      have := ihL (List.nodup_cons.1 hnd).2 hm'
      simp only [List.filter_cons, hne x e]
      split
      ·simp only [List.length_cons]; omega
      ·omega
   have := hsub (List.range ops.size) List.nodup_range (by simp [hjl])
   omega
  ·have hfun : (fun i => i == j || listed.getD i false) = fun i => (listed.setIfInBounds j true).getD i false := by
    funext i
    have h1 : j < listed.size := by omega
    by_cases e : i = j
    ·subst e; simp [h1]
    ·simp [e, Array.getElem?_setIfInBounds_ne (fun e' => e e'.symm)]
   rw [hfun] at k2
   exact k2
theorem drawn_sound (H : OpHyp X E C) (hm : X.P.follows .mixedOrders = true) {h : Hints} {ops : Array Oper} {as : List AOper} (hn : h.n = n) (htr : trOpers X h ops ops.toList = some as) {id : Nat}
  {σ σ' : St} {a : Go.Act} {w : World} (hs : Sim X μ0 n σ a w) (hrun : runDrawn E C as [] [] σ = some σ') {Q : Go.Exit → Go.Act → World → Prop} (hQ : ∀ a' w', Sim X μ0 n σ' a' w' → Q .normal a' w') :
  (Code.region id ops true).wp X.P Q a w := by
 obtain ⟨S, F, W, s1, s2, _, s4⟩ := drawn_trace as [] [] σ σ' rfl hrun
 simp only [List.length_nil, Nat.zero_add] at s1 s2 s4
 have tr : Trace E C as S F W := ⟨fun i ao hi => s4 i ao hi⟩
 refine wp_region_any hm ?_
 refine any_sound H hn htr tr (by rw [s2]; exact hQ) ops.size _ σ _ _ (by simp) ?_ ?_ (drew_sim hs)
 ·exact Nat.le_trans (List.length_filter_le _ _) (by simp)
 ·have hfalse : ∀ i, (Array.replicate ops.size false).getD i false = false := fun i => by
   simp only [Array.getD_eq_getD_getElem?, Array.getElem?_replicate]; split <;> rfl
  refine ⟨(fun i hi => by rw [hfalse i] at hi; cases hi), fun l => ?_⟩
  rw [← s1]
  have : hist S F (fun i => (Array.replicate ops.size false).getD i false) l as.length = hist S F (fun i => (Array.replicate ops.size false).getD i false) l 0 := hist_stop (Nat.zero_le _) fun i _ _ _ => hfalse i
  rw [this]; rfl
end
end Go.AM
namespace Go.AM
open Go Go.RowKit
def AExit.conv : AExit → Go.Exit
 | .normal => .normal
 | .exit id => .exit id
 | .ret => .ret
def Ends (X : Ctx) (μ0 : Mu) (n : Nat) (e : AExit) (σ : St) : Go.Exit → Go.Act → World → Prop := fun ex a w => ex = e.conv ∧ Sim X μ0 n σ a w
section
variable {X : Ctx} {E : Env} {μ0 : Mu} {n : Nat}
theorem opd_bool {σ : St} {a : Go.Act} {w : World} (hs : Sim X μ0 n σ a w) {c : Operand} {c' : AOpd} (hc : trO X c = some c') {b : Bool} (hb : evalOpd σ c' = .bool b) : a.eval c = .bool b := by
 obtain ⟨_, _, φ, hr, _⟩ := hs
 have := trO_rel hr hc σ.O
 have e : evalOpd ⟨σ.T, σ.O⟩ c' = evalOpd σ c' := rfl
 rw [e, hb] at this
 simpa [VRel] using this
theorem code_sound (hm : X.P.follows .mixedOrders = true) {h : Hints} (hn : h.n = n) : ∀ (fuel : Nat), (∀ m, m < fuel → OpHyp X E (callWith E (exec E m))) → ∀ (c : Code) (ac : ACode) (σ σ' : St) (e : AExit) (a : Go.Act) (w : World),
  trCode X h c = some ac → exec E fuel ac σ = some (e, σ') → Sim X μ0 n σ a w → c.wp X.P (Ends X μ0 n e σ') a w := by
 intro fuel
 induction fuel using Nat.strongRecOn with
 | _ fuel0 ih0 =>
  intro hH c
  rcases Nat.eq_zero_or_pos fuel0 with h0 | hpos
  ·subst h0; intro ac σ σ' e a w _ hrun; simp [exec] at hrun
  obtain ⟨fuel, rfl⟩ : ∃ f, fuel0 = f + 1 := ⟨fuel0 - 1, by omega⟩
  have hH' : ∀ m, m < fuel → OpHyp X E (callWith E (exec E m)) := fun m hm' => hH m (by omega)
  have ih := ih0 fuel (by omega)
  have H := hH fuel (by omega)
  cases c with
  | skip =>
   intro ac σ σ' e a w htr hrun hs
   simp [trCode] at htr; subst htr
   simp [exec, execWith] at hrun
   obtain ⟨rfl, rfl⟩ := hrun
   exact wp_skip ⟨rfl, hs⟩
  | region id ops d =>
   intro ac σ σ' e a w htr hrun hs
   cases d with
   | false =>
    simp only [trCode, Option.map_eq_some_iff] at htr
    obtain ⟨as, h1, rfl⟩ := htr
    simp only [exec, execWith, Option.map_eq_some_iff, Prod.mk.injEq] at hrun
    obtain ⟨σ1, h2, rfl, rfl⟩ := hrun
    refine wp_region ?_
    rw [List.range_eq_range']
    exact region_sound H hn h1 ops.size 0 (by omega) hs (by simpa using h2) fun a' w' hs' => ⟨rfl, hs'⟩
   | true =>
    simp only [trCode, Option.map_eq_some_iff] at htr
    obtain ⟨as, h1, rfl⟩ := htr
    simp only [exec, execWith, Option.map_eq_some_iff, Prod.mk.injEq] at hrun
    obtain ⟨σ1, h2, rfl, rfl⟩ := hrun
    exact drawn_sound H hm hn h1 hs h2 fun a' w' hs' => ⟨rfl, hs'⟩
  | seq x y =>
   intro ac σ σ' e a w htr hrun hs
   simp only [trCode] at htr
   split at htr
   ·rename_i ax ay h1 h2
    injection htr with htr; subst htr
    simp only [exec, execWith] at hrun
    refine wp_seq ?_
    split at hrun
    ·rename_i σ1 hx
     refine wp_mono (ih hH' x ax σ σ1 .normal a w h1 hx hs) fun ex a' w' hq => ?_
     obtain ⟨rfl, hs'⟩ := hq
     exact ih hH' y ay σ1 σ' e a' w' h2 hrun hs'
    ·rename_i r hne
     refine wp_mono (ih hH' x ax σ σ' e a w h1 hrun hs) fun ex a' w' hq => ?_
     obtain ⟨rfl, hs'⟩ := hq
     cases e with
     | normal => exact absurd hrun (hne σ')
     | exit id => exact ⟨rfl, hs'⟩
     | ret => exact ⟨rfl, hs'⟩
   ·simp at htr
  | cond c x y =>
   intro ac σ σ' e a w htr hrun hs
   simp only [trCode] at htr
   split at htr
   ·rename_i c' ax ay h0 h1 h2
    injection htr with htr; subst htr
    simp only [exec, execWith] at hrun
    split at hrun
    ·rename_i hb
     exact wp_cond_true (opd_bool hs h0 hb) (ih hH' x ax σ σ' e a w h1 hrun hs)
    ·rename_i hb
     exact wp_cond_false (opd_bool hs h0 hb) (ih hH' y ay σ σ' e a w h2 hrun hs)
    ·simp at hrun
   ·simp at htr
  | block id b =>
   intro ac σ σ' e a w htr hrun hs
   simp only [trCode, Option.map_eq_some_iff] at htr
   obtain ⟨ab, h1, rfl⟩ := htr
   simp only [exec, execWith] at hrun
   refine wp_block ?_
   split at hrun
   ·rename_i id' σ1 hb
    refine wp_mono (ih hH' b ab σ σ1 (.exit id') a w h1 hb hs) fun ex a' w' hq => ?_
    obtain ⟨rfl, hs'⟩ := hq
    simp only [AExit.conv, Go.Exit.inBlock]
    split at hrun
    ·rename_i heq
     simp only [Option.some.injEq, Prod.mk.injEq] at hrun
     obtain ⟨rfl, rfl⟩ := hrun
     rw [if_pos heq]
     exact ⟨rfl, hs'⟩
    ·rename_i hne
     simp only [Option.some.injEq, Prod.mk.injEq] at hrun
     obtain ⟨rfl, rfl⟩ := hrun
     rw [if_neg hne]
     exact ⟨rfl, hs'⟩
   ·rename_i r hne
    refine wp_mono (ih hH' b ab σ σ' e a w h1 hrun hs) fun ex a' w' hq => ?_
    obtain ⟨rfl, hs'⟩ := hq
    cases e with
    | normal => exact ⟨rfl, hs'⟩
    | exit id' => exact absurd hrun (hne id' σ')
    | ret => exact ⟨rfl, hs'⟩
  | loop b =>
   intro ac σ σ' e a w htr hrun hs
   simp only [trCode, Option.map_eq_some_iff] at htr
   obtain ⟨ab, h1, rfl⟩ := htr
   have rounds : ∀ (k : Nat), k ≤ fuel + 1 → ∀ (σ : St), exec E k (.loop ab) σ = some (e, σ') → ∃ m, ∀ a w, Sim X μ0 n σ a w → Code.rounds X.P b (Ends X μ0 n e σ') m a w := by
    intro k
    induction k with
    | zero => intro _ σ hr; simp [exec] at hr
    | succ k ihk =>
     intro hk σ hr
     simp only [exec, execWith] at hr
     have body : ∀ (σ1 : St) (e1 : AExit), exec E k ab σ = some (e1, σ1) → ∀ a w, Sim X μ0 n σ a w → b.wp X.P (Ends X μ0 n e1 σ1) a w := fun σ1 e1 hx a w hs =>
      ih0 k (by omega) (fun m hm' => hH m (by omega)) b ab σ σ1 e1 a w h1 hx hs
     split at hr
     ·rename_i σ1 hx
      obtain ⟨m, hm2⟩ := ihk (by omega) σ1 hr
      refine ⟨m + 1, fun a w hs => ?_⟩
      rw [rounds_succ]
      refine wp_mono (body σ1 .normal hx a w hs) fun ex a' w' hq => ?_
      obtain ⟨rfl, hs'⟩ := hq
      exact hm2 a' w' hs'
     ·rename_i r hne
      refine ⟨1, fun a w hs => ?_⟩
      rw [rounds_succ]
      refine wp_mono (body σ' e hr a w hs) fun ex a' w' hq => ?_
      obtain ⟨rfl, hs'⟩ := hq
      cases e with
      | normal => exact absurd hr (hne σ')
      | exit id' => exact ⟨rfl, hs'⟩
      | ret => exact ⟨rfl, hs'⟩
   obtain ⟨m, hm'⟩ := rounds (fuel + 1) (Nat.le_refl _) σ hrun
   exact wp_loop_rounds m (hm' a w hs)
  | exit id =>
   intro ac σ σ' e a w htr hrun hs
   simp [trCode] at htr; subst htr
   simp [exec, execWith] at hrun
   obtain ⟨rfl, rfl⟩ := hrun
   exact wp_exit ⟨rfl, hs⟩
  | ret =>
   intro ac σ σ' e a w htr hrun hs
   simp [trCode] at htr; subst htr
   simp [exec, execWith] at hrun
   obtain ⟨rfl, rfl⟩ := hrun
   exact wp_ret ⟨rfl, hs⟩
  | label l =>
   intro ac σ σ' e a w htr hrun hs
   simp [trCode] at htr; subst htr
   simp [exec, execWith] at hrun
   obtain ⟨rfl, rfl⟩ := hrun
   exact wp_label ⟨rfl, hs⟩
  | scope b =>
   intro ac σ σ' e a w htr hrun hs
   simp only [trCode, Option.map_eq_some_iff] at htr
   obtain ⟨ab, h1, rfl⟩ := htr
   simp only [exec, execWith] at hrun
   refine wp_scope_straight ?_
   refine wp_mono (ih hH' b ab σ σ' e a w h1 hrun hs) fun ex a' w' hq => ?_
   obtain ⟨rfl, hs'⟩ := hq
   cases e <;> exact ⟨rfl, hs'⟩
  | rangeFunc f ps x y =>
   intro ac σ σ' e a w htr hrun hs
   simp [trCode] at htr; subst htr
   simp [exec, execWith] at hrun
  | goto l =>
   intro ac σ σ' e a w htr hrun hs
   simp [trCode] at htr; subst htr
   simp [exec, execWith] at hrun
  | refuse y =>
   intro ac σ σ' e a w htr hrun hs
   simp [trCode] at htr; subst htr
   simp [exec, execWith] at hrun
end
end Go.AM
namespace Go.AM
open Go Go.RowKit
def SnapOk (X : Ctx) (μ : Mu) (rs : List Nat) (a : V) (v : Value) : Prop := ∀ (B : Nat → Prop) (μ' : Mu), μ'.w = μ.w →
 (∀ b, Own ⟨X.toTrEnv, B⟩ μ' b → Own X μ b ∧ ∀ r ∈ rs, (μ.O r).es.isSome = true → (μ.φ r).cap ≠ 0 → b ≠ (μ.φ r).blk) → VRel ⟨X.toTrEnv, B⟩ μ' a v
def SnapOks (X : Ctx) (μ : Mu) (rs : List Nat) (as : List V) (vs : List Value) : Prop := ∀ (B : Nat → Prop) (μ' : Mu), μ'.w = μ.w →
 (∀ b, Own ⟨X.toTrEnv, B⟩ μ' b → Own X μ b ∧ ∀ r ∈ rs, (μ.O r).es.isSome = true → (μ.φ r).cap ≠ 0 → b ≠ (μ.φ r).blk) → VRels ⟨X.toTrEnv, B⟩ μ' as vs
section
variable {X : Ctx} {B : Nat → Prop} {μ μ' : Mu}
mutual
theorem pure_transfer (hw : μ'.w = μ.w) (ho : ∀ b, Own ⟨X.toTrEnv, B⟩ μ' b → Own X μ b) : ∀ {x : V} {v : Value}, V.isPure x = true → VRel X μ x v → VRel ⟨X.toTrEnv, B⟩ μ' x v
 | .bool _, _, _, h | .int .., _, _, h | .float _, _, _, h | .str _, _, _, h | .nilp, _, _, h | .nilfn, _, _, h | .nili, _, _, h | .nils, _, _, h => by simpa [VRel] using h
 | .any, _, hp, _ | .own .., _, hp, _ | .msl .., _, hp, _ | .mptr .., _, hp, _ | .sl .., _, hp, _ | .ptr .., _, hp, _ | .mp .., _, hp, _ | .it .., _, hp, _ => by simp [V.isPure] at hp
 | .mlit es, _, hp, h => by
  simp only [VRel] at h ⊢
  obtain ⟨h0, h⟩ := h
  refine ⟨h0, h.imp id ?_⟩
  rintro ⟨a, ents, clock, rfl, hb, hs, h1, h2⟩
  exact ⟨a, ents, clock, rfl, fun hh => hb (ho _ hh), by rw [hw]; exact hs, by rw [hw]; exact h1, pures_transfer hw ho h0 h2⟩
 | .agg cs, _, hp, h => by
  simp only [VRel] at h ⊢
  obtain ⟨h1, vs, rfl, h2⟩ := h
  exact ⟨h1, vs, rfl, pures_transfer hw ho (by simpa [V.isPure] using hp) h2⟩
 | .tuple cs, _, hp, h => by
  simp only [VRel] at h ⊢
  obtain ⟨vs, rfl, h2⟩ := h
  exact ⟨vs, rfl, pures_transfer hw ho (by simpa [V.isPure] using hp) h2⟩
 | .fn f cs, _, hp, h => by
  simp only [VRel] at h ⊢
  obtain ⟨F, cv, rfl, h1, h2⟩ := h
  exact ⟨F, cv, rfl, h1, pures_transfer hw ho (by simpa [V.isPure] using hp) h2⟩
 | .iface t x, _, hp, h => by
  simp only [VRel] at h ⊢
  obtain ⟨F, y, rfl, h1, h2⟩ := h
  exact ⟨F, y, rfl, h1, pure_transfer hw ho (by simpa [V.isPure] using hp) h2⟩
 | .lit sz xs, _, hp, h => by
  simp only [VRel] at h ⊢
  obtain ⟨h0, h0', a, cap, vs, rfl, h1, h2, h3⟩ := h
  refine ⟨h0, h0', a, cap, vs, rfl, h1, pures_transfer hw ho h0 h2, h3.imp id ?_⟩
  rintro ⟨b, o, rfl, hb, hs, hr⟩
  exact ⟨b, o, rfl, fun hh => hb (ho b hh), by rw [hw]; exact hs, by rw [hw]; exact hr⟩
 | .eptr e off, _, hp, h => by
  simp only [VRel] at h ⊢
  obtain ⟨h0, h0', b, o, sz, x, rfl, hb, hs, h1, hr⟩ := h
  exact ⟨h0, h0', b, o, sz, x, rfl, fun hh => hb (ho b hh), by rw [hw]; exact hs, pure_transfer hw ho h0 h1, by rw [hw]; exact hr⟩
theorem pures_transfer (hw : μ'.w = μ.w) (ho : ∀ b, Own ⟨X.toTrEnv, B⟩ μ' b → Own X μ b) : ∀ {xs : List V} {vs : List Value}, V.arePure xs = true → VRels X μ xs vs → VRels ⟨X.toTrEnv, B⟩ μ' xs vs
 | [], [], _, _ => by simp [VRels]
 | [], _ :: _, _, h => by simp [VRels] at h
 | _ :: _, [], _, h => by simp [VRels] at h
 | x :: xs, v :: vs, hp, h => by
  simp only [VRels] at h ⊢
  simp only [V.arePure, Bool.and_eq_true] at hp
  exact ⟨pure_transfer hw ho hp.1 h.1, pures_transfer hw ho hp.2 h.2⟩
end
end
section
variable {X : Ctx} {C : Oracle} {T : Nat → V} {μ : Mu}
theorem SnapOk.of_pure {a : V} {v : Value} (hp : V.isPure a = true) (h : VRel X μ a v) (rs : List Nat) : SnapOk X μ rs a v :=
 fun _ _ hw ho => pure_transfer hw (fun b hb => (ho b hb).1) hp h
theorem SnapOk.more {rs rs' : List Nat} {a : V} {v : Value} (h : SnapOk X μ rs a v) (hs : ∀ r ∈ rs, r ∈ rs') : SnapOk X μ rs' a v :=
 fun B μ' hw ho => h B μ' hw fun b hb => ⟨(ho b hb).1, fun r hr => (ho b hb).2 r (hs r hr)⟩
theorem SnapOks.more {rs rs' : List Nat} {a : List V} {v : List Value} (h : SnapOks X μ rs a v) (hs : ∀ r ∈ rs, r ∈ rs') : SnapOks X μ rs' a v :=
 fun B μ' hw ho => h B μ' hw fun b hb => ⟨(ho b hb).1, fun r hr => (ho b hb).2 r (hs r hr)⟩
theorem snapL_sound {f : V → (V → List Nat → Act) → Act}
  (hf : ∀ {v : V} {k : V → List Nat → Act} {val : Value} {p : V × St}, VRel X μ v val → (f v k).run C ⟨T, μ.O⟩ = some p → ∃ v' rs, (k v' rs).run C ⟨T, μ.O⟩ = some p ∧ V.isPure v' = true ∧ SnapOk X μ rs v' val ∧ (v.lies = true → v'.lies = true) ∧ (v.isCell = true → v'.isCell = true)) :
  ∀ {vs : List V} {k : List V → List Nat → Act} {vals : List Value} {p : V × St}, VRels X μ vs vals → (snapL f vs k).run C ⟨T, μ.O⟩ = some p →
   ∃ vs' rs, (k vs' rs).run C ⟨T, μ.O⟩ = some p ∧ V.arePure vs' = true ∧ SnapOks X μ rs vs' vals ∧ vs'.length = vs.length ∧ (vs.all V.lies = true → vs'.all V.lies = true) ∧ (vs.all V.isCell = true → vs'.all V.isCell = true)
 | [], k, [], p, _, hrun => ⟨[], [], hrun, rfl, fun _ _ _ _ => by simp [VRels], rfl, id, id⟩
 | [], _, _ :: _, _, h, _ => by simp [VRels] at h
 | _ :: _, _, [], _, h, _ => by simp [VRels] at h
 | v :: vs, k, val :: vals, p, h, hrun => by
  simp only [VRels] at h
  obtain ⟨v', rs, h1, h2, h3, h4, h5⟩ := hf h.1 hrun
  obtain ⟨vs', rs', k1, k2, k3, k4, k5, k6⟩ := snapL_sound hf h.2 h1
  refine ⟨v' :: vs', rs ++ rs', k1, by simp [V.arePure, h2, k2], fun B μ' hw ho => ?_, by simp [k4], ?_, ?_⟩
  ·simp only [VRels]
   exact ⟨h3.more (fun r hr => by simp [hr]) B μ' hw ho, k3.more (fun r hr => by simp [hr]) B μ' hw ho⟩
  ·simp only [List.all_cons, Bool.and_eq_true]; exact fun hh => ⟨h4 hh.1, k5 hh.2⟩
  ·simp only [List.all_cons, Bool.and_eq_true]; exact fun hh => ⟨h5 hh.1, k6 hh.2⟩
theorem snapAll_sound {f : V → (V → List Nat → Act) → Act}
  (hf : ∀ {v : V} {k : V → List Nat → Act} {val : Value} {p : V × St}, VRel X μ v val → (f v k).run C ⟨T, μ.O⟩ = some p → ∃ v' rs, (k v' rs).run C ⟨T, μ.O⟩ = some p ∧ V.isPure v' = true ∧ SnapOk X μ rs v' val ∧ (v.lies = true → v'.lies = true) ∧ (v.isCell = true → v'.isCell = true))
  {vs : List V} {k : List V → List Nat → Act} {vals : List Value} {p : V × St} (h : VRels X μ vs vals) (hrun : (snapAll f vs k).run C ⟨T, μ.O⟩ = some p) :
   ∃ vs' rs, (k vs' rs).run C ⟨T, μ.O⟩ = some p ∧ V.arePure vs' = true ∧ SnapOks X μ rs vs' vals ∧ vs'.length = vs.length ∧ (vs.all V.lies = true → vs'.all V.lies = true) ∧ (vs.all V.isCell = true → vs'.all V.isCell = true) := by
 unfold snapAll at hrun
 split at hrun
 ·rename_i hp
  exact ⟨vs, [], hrun, hp, fun _ _ hw ho => pures_transfer hw (fun b hb => (ho b hb).1) hp h, rfl, id, id⟩
 ·exact snapL_sound hf h hrun
theorem snapV_sound (ho : Objs X μ) : ∀ (d : Nat) {v : V} {k : V → List Nat → Act} {val : Value} {p : V × St}, VRel X μ v val → (snapV d v k).run C ⟨T, μ.O⟩ = some p →
  ∃ v' rs, (k v' rs).run C ⟨T, μ.O⟩ = some p ∧ V.isPure v' = true ∧ SnapOk X μ rs v' val ∧ (v.lies = true → v'.lies = true) ∧ (v.isCell = true → v'.isCell = true)
 | 0, v, k, val, p, h, hrun => by
  simp only [snapV] at hrun
  split at hrun
  ·rename_i hp; exact ⟨v, [], hrun, hp, SnapOk.of_pure hp h _, id, id⟩
  ·exact absurd hrun run_fail
 | d + 1, v, k, val, p, h, hrun => by
  have ih := fun {v : V} {k : V → List Nat → Act} {val : Value} {p : V × St} => snapV_sound ho d (v := v) (k := k) (val := val) (p := p)
  simp only [snapV] at hrun
  split at hrun
  ·rename_i hp; exact ⟨v, [], hrun, hp, SnapOk.of_pure hp h _, id, id⟩
  ·rename_i hnp
   split at hrun
   ·
    simp only [VRel] at h
    obtain ⟨h0, vs, rfl, hv⟩ := h
    obtain ⟨cs', rs, k1, k2, k3, k4, k5, k6⟩ := snapL_sound ih hv hrun
    refine ⟨_, rs, k1, by simpa [V.isPure] using k2, fun B μ' hw hh => ?_, fun _ => rfl, fun hc => by simp [V.isCell] at hc⟩
    simp only [VRel]
    exact ⟨k6 h0, vs, rfl, k3 B μ' hw hh⟩
   ·
    simp only [VRel] at h
    obtain ⟨F, cv, rfl, hf, hv⟩ := h
    obtain ⟨cs', rs, k1, k2, k3, k4, k5, k6⟩ := snapL_sound ih hv hrun
    refine ⟨_, rs, k1, by simpa [V.isPure] using k2, fun B μ' hw hh => ?_, fun _ => rfl, fun _ => rfl⟩
    simp only [VRel]
    exact ⟨F, cv, rfl, hf, k3 B μ' hw hh⟩
   ·
    simp only [VRel] at h
    obtain ⟨F, y, rfl, hf, hv⟩ := h
    obtain ⟨x', rs, k1, k2, k3, k4, k5⟩ := ih hv hrun
    refine ⟨_, rs, k1, by simpa [V.isPure] using k2, fun B μ' hw hh => ?_, fun _ => rfl, fun _ => rfl⟩
    simp only [VRel]
    exact ⟨F, y, rfl, hf, k3 B μ' hw hh⟩
   ·
    rename_i r g off len
    simp only [Act.run] at hrun
    split at hrun
    ·rename_i es hes
     split at hrun
     ·rename_i hc
      obtain ⟨hgen, harr, hfit⟩ := hc
      simp only [VRel] at h
      obtain ⟨a, cap, rfl, hle, hge, haddr⟩ := h
      obtain ⟨a0, a1, a2⟩ := haddr hgen
      obtain ⟨q1, q2, q3, q4⟩ := ho.row r es hes a0
      have hwl : (window es off len).length = len := by simp [window]; omega
      have hlies : (window es off len).all V.lies = true := by
       simp only [List.all_eq_true] at q3 ⊢
       exact fun x hx => (isBlank_lies (q3 x (List.mem_of_mem_drop (List.mem_of_mem_take hx)))).1
      have hvs : ∃ vs, VRels X μ (window es off len) vs ∧ (len = 0 ∨ ((μ.φ r).cap ≠ 0 ∧ (μ.φ r).blk < μ.w.heap.size ∧ a = some ⟨(μ.φ r).blk, (μ.φ r).base + off * (μ.O r).sz, none⟩ ∧ RowAt μ.w (μ.φ r).blk ((μ.φ r).base + off * (μ.O r).sz) (μ.O r).sz vs)) := by
       by_cases hl0 : len = 0
       ·exact ⟨[], by simp [window, hl0, VRels], .inl hl0⟩
       ·rcases q4 with q4 | ⟨cc, TT, vs, p1, p2, p3, p4⟩
        ·omega
        ·exact ⟨(vs.drop off).take len, VRels.take _ (VRels.drop _ p3), .inr ⟨by omega, (Array.getElem?_eq_some_iff.1 p1).1, a2.resolve_left (by omega), (p4.drop off).take len⟩⟩
      obtain ⟨vs, hv1, hv2⟩ := hvs
      obtain ⟨xs', rs, k1, k2, k3, k4, k5, k6⟩ := snapAll_sound ih hv1 hrun
      refine ⟨_, r :: rs, k1, rfl, fun B μ' hw hh => ?_, fun _ => rfl, fun _ => rfl⟩
      have hx := k3.more (rs' := r :: rs) (fun q hq => by simp [hq]) B μ' hw hh
      simp only [VRel]
      refine ⟨k2, k5 hlies, a, cap, vs, by rw [k4, hwl], by rw [k4, hwl]; exact hle, hx, ?_⟩
      rcases hv2 with hl0 | ⟨c0, c1, c2, c3⟩
      ·left
       have : xs'.length = 0 := by rw [k4, hwl]; exact hl0
       simpa using this
      ·right
       refine ⟨_, _, c2, fun hown => ?_, by rw [hw]; exact c1, by rw [hw]; exact c3⟩
       exact (hh _ hown).2 r (by simp) (by simp [hes]) c0 rfl
     ·exact absurd hrun run_fail
    ·exact absurd hrun run_fail
   ·
    rename_i r g idx off
    simp only [Act.run] at hrun
    split at hrun
    ·rename_i es hes
     split at hrun
     ·rename_i hgen
      split at hrun
      ·rename_i e he
       simp only [VRel] at h
       obtain ⟨a, rfl, hge, haddr⟩ := h
       obtain ⟨a0, hae⟩ := haddr hgen
       obtain ⟨q1, q2, q3, q4⟩ := ho.row r es hes a0
       have hlt : idx < es.length := (List.getElem?_eq_some_iff.1 he).1
       rcases q4 with q4 | ⟨cc, TT, vs, p1, p2, p3, p4⟩
       ·omega
       ·obtain ⟨x, hx, hrel⟩ := p3.get he
        have hbl : isBlank e (μ.O r).sz = true := by
         simp only [List.all_eq_true] at q3
         exact q3 e (List.mem_of_getElem? he)
        obtain ⟨e', rs, k1, k2, k3, k4, k5⟩ := ih hrel hrun
        refine ⟨_, r :: rs, k1, rfl, fun B μ' hw hh => ?_, fun _ => rfl, fun _ => rfl⟩
        simp only [VRel]
        have hrow : RowAt μ.w (μ.φ r).blk ((μ.φ r).base + idx * (μ.O r).sz) (μ.O r).sz [x] := by
         have := (p4.drop idx).take 1
         have hd1 : (vs.drop idx).take 1 = [x] := by
          have hl2 : idx < vs.length := (List.getElem?_eq_some_iff.1 hx).1
          rw [List.drop_eq_getElem_cons hl2, List.take_succ_cons, List.take_zero]
          rw [List.getElem?_eq_getElem hl2] at hx
          injection hx with hx; rw [hx]
         rwa [hd1] at this
        refine ⟨k2, k4 (isBlank_lies hbl).1, (μ.φ r).blk, (μ.φ r).base + idx * (μ.O r).sz, (μ.O r).sz, x, by rw [hae], fun hown => ?_, by rw [hw]; exact (Array.getElem?_eq_some_iff.1 p1).1,
         k3.more (rs' := r :: rs) (fun q hq => by simp [hq]) B μ' hw hh, by rw [hw]; exact hrow⟩
        exact (hh _ hown).2 r (by simp) (by simp [hes]) (by omega) rfl
      ·exact absurd hrun run_fail
     ·exact absurd hrun run_fail
    ·exact absurd hrun run_fail
   ·exact absurd hrun run_fail
inductive Prep (X : Ctx) (μ : Mu) (r0 : Nat) : Nat → List V → List Value → List Nat → List WRef → Prop
 | nil (i : Nat) : Prep X μ r0 i [] [] [] []
 | plain {i : Nat} {a : V} {v : Value} {rs rs' : List Nat} {as : List V} {vs : List Value} {ws : List WRef} (hp : V.isPure a = true) (hs : SnapOk X μ rs a v) (h : Prep X μ r0 (i + 1) as vs rs' ws) :
   Prep X μ r0 i (a :: as) (v :: vs) (rs ++ rs') ws
 | sl {i r g off len : Nat} {es : List V} {v : Value} {rs : List Nat} {as : List V} {vs : List Value} {ws : List WRef} (hes : (μ.O r).es = some es) (hfz : (μ.O r).fz = false) (hgen : (μ.O r).gen = g) (hpu : V.arePure es = true)
   (hfit : off + len ≤ es.length) (hv : VRel X μ (.sl r g off len) v) (h : Prep X μ r0 (i + 1) as vs rs ws) : Prep X μ r0 i (.msl (μ.O r).sz es off len :: as) (v :: vs) rs (⟨i, r, none⟩ :: ws)
 | ptr {i r g idx off : Nat} {es : List V} {v : Value} {rs : List Nat} {as : List V} {vs : List Value} {ws : List WRef} (hes : (μ.O r).es = some es) (hfz : (μ.O r).fz = false) (hgen : (μ.O r).gen = g) (hpu : V.arePure es = true)
   (hv : VRel X μ (.ptr r g idx off) v) (h : Prep X μ r0 (i + 1) as vs rs ws) : Prep X μ r0 i (.mptr (μ.O r).sz es idx off :: as) (v :: vs) rs (⟨i, r, none⟩ :: ws)
 | fresh {i sz : Nat} {v : Value} {rs : List Nat} {as : List V} {vs : List Value} {ws : List WRef} (hsz : 0 < sz) (hv : ∃ a, v = .slice a 0 0) (h : Prep X μ r0 (i + 1) as vs rs ws) :
   Prep X μ r0 i (.msl sz [] 0 0 :: as) (v :: vs) rs (⟨i, r0 + i, some sz⟩ :: ws)
theorem prepare_sound (ho : Objs X μ) {r0 : Nat} : ∀ {vs : List V} {ms : List (Option Nat)} {i : Nat} {k : List V → List Nat → List WRef → Act} {vals : List Value} {p : V × St}, VRels X μ vs vals →
  (prepare r0 vs ms i k).run C ⟨T, μ.O⟩ = some p → ∃ as rs ws, (k as rs ws).run C ⟨T, μ.O⟩ = some p ∧ Prep X μ r0 i as vals rs ws
 | [], ms, i, k, [], p, _, hrun => ⟨[], [], [], by simpa [prepare] using hrun, .nil i⟩
 | [], _, _, _, _ :: _, _, h, _ => by simp [VRels] at h
 | _ :: _, _, _, _, [], _, h, _ => by simp [VRels] at h
 | v :: vs, [], i, k, val :: vals, p, h, hrun => by
  simp only [VRels] at h
  simp only [prepare, snap] at hrun
  obtain ⟨v', rs, h1, h2, h3, _, _⟩ := snapV_sound ho 5 h.1 hrun
  obtain ⟨as, rs', ws, k1, k2⟩ := prepare_sound ho h.2 h1
  exact ⟨_, _, _, k1, .plain h2 h3 k2⟩
 | v :: vs, m :: ms, i, k, val :: vals, p, h, hrun => by
  simp only [VRels] at h
  simp only [prepare] at hrun
  split at hrun
  ·split at hrun
   ·split at hrun
    ·rename_i hsz
     obtain ⟨as, rs', ws, k1, k2⟩ := prepare_sound ho h.2 hrun
     have h1 := h.1
     simp only [VRel] at h1
     exact ⟨_, _, _, k1, .fresh hsz h1 k2⟩
    ·exact absurd hrun run_fail
   ·rename_i r g off len
    simp only [Act.run] at hrun
    split at hrun
    ·rename_i es hes
     split at hrun
     ·rename_i hc
      obtain ⟨c1, c2, c3, c4, c5⟩ := hc
      obtain ⟨as, rs', ws, k1, k2⟩ := prepare_sound ho h.2 hrun
      rw [← c3] at k1
      exact ⟨_, _, _, k1, .sl hes c2 c1 c5 c4 h.1 k2⟩
     ·exact absurd hrun run_fail
    ·exact absurd hrun run_fail
   ·rename_i r g idx off
    simp only [Act.run] at hrun
    split at hrun
    ·rename_i es hes
     split at hrun
     ·rename_i hc
      obtain ⟨c1, c2, c3, c4⟩ := hc
      obtain ⟨as, rs', ws, k1, k2⟩ := prepare_sound ho h.2 hrun
      rw [← c3] at k1
      exact ⟨_, _, _, k1, .ptr hes c2 c1 c4 h.1 k2⟩
     ·exact absurd hrun run_fail
    ·exact absurd hrun run_fail
   ·exact absurd hrun run_fail
  ·simp only [snap] at hrun
   obtain ⟨v', rs, h1, h2, h3, _, _⟩ := snapV_sound ho 5 h.1 hrun
   obtain ⟨as, rs', ws, k1, k2⟩ := prepare_sound ho h.2 h1
   exact ⟨_, _, _, k1, .plain h2 h3 k2⟩
end
end Go.AM
namespace Go.AM
open Go Go.RowKit
def Upon (P : Program) (r : Result Next) (R : Value → World → Prop) : Prop :=
 match r with
 | .ok (.value v) w' => R v w'
 | .ok (.enter f args) w' => Calls P f args w' fun | .returned v, w'' => R v w'' | _, _ => False
 | _ => False
theorem Upon.upon {P : Program} {r : Result Next} {R : Value → World → Prop} (h : Upon P r R) {o : Oper} {a : Go.Act} {next : Go.Act → World → Prop} {Q : Go.Exit → Go.Act → World → Prop}
  (hn : ∀ v w, R v w → next (a.put o.dst v) w) : o.upon P a next Q r := by
 unfold Upon at h
 split at h
 ·exact hn _ _ h
 ·rw [Oper.upon_enter]
  refine Calls.mono h fun e w' he => ?_
  cases e with
  | returned v => exact hn _ _ he
  | panicked c => exact he.elim
  | outgrown => exact he.elim
 ·exact h.elim
def V.cellish : V → Bool
 | .own .. => true
 | c => c.isCell
theorem cellish_of_isCell {c : V} (h : c.isCell = true) : c.cellish = true := by cases c <;> simp_all [V.isCell, V.cellish]
inductive Exported (n : Nat) (σ : St) : V → V → List Nat → Prop
 | one {v0 v : V} {rs : List Nat} (h : exportV n σ v0 = some (v, rs)) : Exported n σ v0 v rs
 | many {vs vs' : List V} {rs : List Nat} (h : exportVs n σ vs = some (vs', rs)) : Exported n σ (.tuple vs) (.tuple vs') rs
def SoundCall (X : TrEnv) (F : FuncId) (args : List V) (res : Res) : Prop :=
 ∀ (B : Nat → Prop) (w : World) (φ0 : Nat → Row) (vals : List Value), vals.length = args.length →
  (∀ t v, vals[t]? = some v → VRel ⟨X, B⟩ ⟨w, φ0, (enter args).O⟩ ((enter args).T t) v) → Objs ⟨X, B⟩ ⟨w, φ0, (enter args).O⟩ →
  Upon X.P ((callFunc F vals.toArray).run X.P w) fun val w' => ∃ φ' T' O' v0 refs, Le ⟨w, φ0, (enter args).O⟩ ⟨w', φ', O'⟩ ∧ Objs ⟨X, B⟩ ⟨w', φ', O'⟩ ∧
   VRel ⟨X, B⟩ ⟨w', φ', O'⟩ v0 val ∧ Exported args.length ⟨T', O'⟩ v0 res.val refs ∧ distinct refs = true ∧ outsOf O' 0 args = some res.outs
inductive Exp (Y : Ctx) (μ : Mu) (n : Nat) : V → List Nat → Value → Prop
 | pure {c : V} {val : Value} (hp : c.isPure = true) (h : VRel Y μ c val) : Exp Y μ n c [] val
 | sl {r g off len : Nat} {es : List V} {val : Value} (hr : r < n) (hes : (μ.O r).es = some es) (hg : (μ.O r).gen = g) (hl : off + len ≤ es.length) (h : VRel Y μ (.sl r g off len) val) : Exp Y μ n (.sl r g off len) [r] val
 | own {r g off len : Nat} {es : List V} {val : Value} (hr : n ≤ r) (hes : (μ.O r).es = some es) (hfz : (μ.O r).fz = false) (hg : (μ.O r).gen = g) (hl : off + len ≤ es.length) (hp : V.arePure (window es off len) = true)
   (h : VRel Y μ (.sl r g off len) val) : Exp Y μ n (.own (μ.O r).sz (window es off len)) [r] val
inductive Exps (Y : Ctx) (μ : Mu) (n : Nat) : List V → List Nat → List Value → Prop
 | nil : Exps Y μ n [] [] []
 | cons {c : V} {rs rs' : List Nat} {val : Value} {cs : List V} {vals : List Value} (h : Exp Y μ n c rs val) (hs : Exps Y μ n cs rs' vals) : Exps Y μ n (c :: cs) (rs ++ rs') (val :: vals)
section
variable {Y : Ctx} {μ : Mu} {n : Nat}
theorem Exps.length {cs : List V} {rs : List Nat} {vals : List Value} (h : Exps Y μ n cs rs vals) : cs.length = vals.length := by
 induction h with
 | nil => rfl
 | cons _ _ ih => simp [ih]
theorem frozen_lit (ho : Objs Y μ) {r g off len : Nat} {es : List V} {val : Value} (hes : (μ.O r).es = some es) (hfz : (μ.O r).fz = true) (hg : (μ.O r).gen = g) (hl : off + len ≤ es.length)
  (hp : V.arePure (window es off len) = true) (h : VRel Y μ (.sl r g off len) val) : VRel Y μ (.lit (μ.O r).sz (window es off len)) val := by
 simp only [VRel] at h ⊢
 obtain ⟨a, cap, rfl, hle, hge, haddr⟩ := h
 obtain ⟨a0, a1, a2⟩ := haddr hg
 obtain ⟨q1, q2, q3, q4⟩ := ho.row r es hes a0
 have hwl : (window es off len).length = len := by simp [window]; omega
 have hlies : (window es off len).all V.lies = true := by
  simp only [List.all_eq_true] at q3 ⊢
  exact fun x hx => (isBlank_lies (q3 x (List.mem_of_mem_drop (List.mem_of_mem_take hx)))).1
 by_cases hl0 : len = 0
 ·exact ⟨hp, hlies, a, cap, [], by rw [hwl], by omega, by simp [window, hl0, VRels], .inl (by simpa using hwl.trans hl0)⟩
 ·rcases q4 with q4 | ⟨cc, TT, vs, p1, p2, p3, p4⟩
  ·omega
  ·refine ⟨hp, hlies, a, cap, (vs.drop off).take len, by rw [hwl], by omega, VRels.take _ (VRels.drop _ p3), .inr ⟨_, _, a2.resolve_left (by omega), ?_, (Array.getElem?_eq_some_iff.1 p1).1, (p4.drop off).take len⟩⟩
   rintro (⟨r', k1, k2, k3, k4⟩ | hb)
   ·by_cases e : r' = r
    ·subst e; rw [hfz] at k2; simp at k2
    ·exact ho.inj r' r e k1 (by simp [hes]) k3 (by omega) k4
   ·exact ho.nob r (by simp [hes]) (by omega) hb
theorem exportCell_sound (ho : Objs Y μ) {T : Nat → V} {c c' : V} {rs : List Nat} {val : Value} (h : VRel Y μ c val) (he : exportCell n ⟨T, μ.O⟩ c = some (c', rs)) : Exp Y μ n c' rs val := by
 unfold exportCell at he
 split at he
 ·rename_i r g off len
  simp only at he
  split at he
  ·rename_i es hes
   split at he
   ·rename_i hc
    obtain ⟨c1, c2, c3, c4⟩ := hc
    split at he
    ·rename_i hr
     simp only [Option.some.injEq, Prod.mk.injEq] at he
     obtain ⟨rfl, rfl⟩ := he
     exact .sl hr hes c1 c2 h
    ·rename_i hr
     split at he
     ·rename_i hfz
      simp only [Option.some.injEq, Prod.mk.injEq] at he
      obtain ⟨rfl, rfl⟩ := he
      exact .pure rfl (frozen_lit ho hes hfz c1 c2 c4 h)
     ·rename_i hfz
      simp only [Option.some.injEq, Prod.mk.injEq] at he
      obtain ⟨rfl, rfl⟩ := he
      exact .own (by omega) hes (by simpa using hfz) c1 c2 c4 h
   ·simp at he
  ·simp at he
 ·split at he
  ·rename_i hp
   simp only [Option.some.injEq, Prod.mk.injEq] at he
   obtain ⟨rfl, rfl⟩ := he
   exact .pure hp h
  ·simp at he
theorem exportCells_sound (ho : Objs Y μ) {T : Nat → V} : ∀ {cs cs' : List V} {rs : List Nat} {vals : List Value}, VRels Y μ cs vals → exportCells n ⟨T, μ.O⟩ cs = some (cs', rs) → Exps Y μ n cs' rs vals
 | [], cs', rs, [], _, he => by simp [exportCells] at he; obtain ⟨rfl, rfl⟩ := he; exact .nil
 | [], _, _, _ :: _, h, _ => by simp [VRels] at h
 | _ :: _, _, _, [], h, _ => by simp [VRels] at h
 | c :: cs, cs', rs, v :: vs, h, he => by
  simp only [VRels] at h
  simp only [exportCells] at he
  split at he
  ·rename_i c1 r1 cs1 rs1 h1 h2
   simp only [Option.some.injEq, Prod.mk.injEq] at he
   obtain ⟨rfl, rfl⟩ := he
   exact .cons (exportCell_sound ho h.1 h1) (exportCells_sound ho h.2 h2)
  ·simp at he
inductive ExpV (Y : Ctx) (μ : Mu) (n : Nat) : V → List Nat → Value → Prop
 | cell {c : V} {rs : List Nat} {val : Value} (h : Exp Y μ n c rs val) : ExpV Y μ n c rs val
 | agg {cs : List V} {rs : List Nat} {vals : Array Value} (hc : cs.all V.cellish = true) (h : Exps Y μ n cs rs vals.toList) : ExpV Y μ n (.agg cs) rs (.agg vals)
inductive ExpVs (Y : Ctx) (μ : Mu) (n : Nat) : List V → List Nat → List Value → Prop
 | nil : ExpVs Y μ n [] [] []
 | cons {c : V} {rs rs' : List Nat} {val : Value} {cs : List V} {vals : List Value} (h : ExpV Y μ n c rs val) (hs : ExpVs Y μ n cs rs' vals) : ExpVs Y μ n (c :: cs) (rs ++ rs') (val :: vals)
theorem exportCell_isCell {T : Nat → V} {O : Nat → Obj} {c c' : V} {rs : List Nat} (he : exportCell n ⟨T, O⟩ c = some (c', rs)) (hc : c.isCell = true) : V.cellish c' = true := by
 unfold exportCell at he
 split at he
 ·simp only at he
  split at he
  ·split at he
   ·split at he
    ·simp only [Option.some.injEq, Prod.mk.injEq] at he
     obtain ⟨rfl, rfl⟩ := he; rfl
    ·split at he
     ·simp only [Option.some.injEq, Prod.mk.injEq] at he
      obtain ⟨rfl, rfl⟩ := he; rfl
     ·simp only [Option.some.injEq, Prod.mk.injEq] at he
      obtain ⟨rfl, rfl⟩ := he; rfl
   ·simp at he
  ·simp at he
 ·split at he
  ·simp only [Option.some.injEq, Prod.mk.injEq] at he
   obtain ⟨rfl, rfl⟩ := he
   exact cellish_of_isCell hc
  ·simp at he
theorem exportCells_isCell {T : Nat → V} {O : Nat → Obj} : ∀ {cs cs' : List V} {rs : List Nat}, exportCells n ⟨T, O⟩ cs = some (cs', rs) → cs.all V.isCell = true →
  cs'.all V.cellish = true
 | [], cs', rs, he, _ => by simp [exportCells] at he; obtain ⟨rfl, rfl⟩ := he; rfl
 | c :: cs, cs', rs, he, hc => by
  simp only [List.all_cons, Bool.and_eq_true] at hc
  simp only [exportCells] at he
  split at he
  ·rename_i c1 r1 cs1 rs1 h1 h2
   simp only [Option.some.injEq, Prod.mk.injEq] at he
   obtain ⟨rfl, rfl⟩ := he
   have i1 := exportCell_isCell h1 hc.1
   have i2 := exportCells_isCell h2 hc.2
   rw [List.all_cons, i2, Bool.and_true]
   exact i1
  ·simp at he
theorem Exps.pures {cs : List V} {rs : List Nat} {vals : List Value} (h : Exps Y μ n cs rs vals) (hp : V.arePure cs = true) : VRels Y μ cs vals ∧ rs = [] := by
 induction h with
 | nil => simp [VRels]
 | cons h hs ih =>
  simp only [V.arePure, Bool.and_eq_true] at hp
  obtain ⟨i1, i2⟩ := ih hp.2
  cases h with
  | pure hp' hv => simp only [VRels]; exact ⟨⟨hv, i1⟩, by simpa using i2⟩
  | sl => simp [V.isPure] at hp
  | own => simp [V.isPure] at hp
theorem exportV_sound (ho : Objs Y μ) {T : Nat → V} {v v' : V} {rs : List Nat} {val : Value} (h : VRel Y μ v val) (he : exportV n ⟨T, μ.O⟩ v = some (v', rs)) : ExpV Y μ n v' rs val := by
 unfold exportV at he
 split at he
 ·rename_i hp
  simp only [Option.some.injEq, Prod.mk.injEq] at he
  obtain ⟨rfl, rfl⟩ := he
  exact .cell (.pure hp h)
 ·split at he
  ·simp only [VRel] at h
   obtain ⟨h1, vs, rfl, h2⟩ := h
   split at he
   ·rename_i cs' rs' hcs
    simp only [Option.some.injEq, Prod.mk.injEq] at he
    obtain ⟨rfl, rfl⟩ := he
    exact .agg (exportCells_isCell hcs h1) (exportCells_sound ho h2 hcs)
   ·simp at he
  ·simp only [VRel] at h
   obtain ⟨F, cv, rfl, h1, h2⟩ := h
   split at he
   ·rename_i cs' rs' hcs
    split at he
    ·rename_i hp
     simp only [Option.some.injEq, Prod.mk.injEq] at he
     obtain ⟨rfl, rfl⟩ := he
     obtain ⟨k1, k2⟩ := (exportCells_sound ho h2 hcs).pures hp
     subst k2
     refine .cell (.pure (by simpa [V.isPure] using hp) ?_)
     simp only [VRel]
     exact ⟨F, cv, rfl, h1, k1⟩
    ·simp at he
   ·simp at he
  ·exact .cell (exportCell_sound ho h he)
theorem exportVs_sound (ho : Objs Y μ) {T : Nat → V} : ∀ {cs cs' : List V} {rs : List Nat} {vals : List Value}, VRels Y μ cs vals → exportVs n ⟨T, μ.O⟩ cs = some (cs', rs) → ExpVs Y μ n cs' rs vals
 | [], cs', rs, [], _, he => by simp [exportVs] at he; obtain ⟨rfl, rfl⟩ := he; exact .nil
 | [], _, _, _ :: _, h, _ => by simp [VRels] at h
 | _ :: _, _, _, [], h, _ => by simp [VRels] at h
 | c :: cs, cs', rs, v :: vs, h, he => by
  simp only [VRels] at h
  simp only [exportVs] at he
  split at he
  ·rename_i c1 r1 cs1 rs1 h1 h2
   simp only [Option.some.injEq, Prod.mk.injEq] at he
   obtain ⟨rfl, rfl⟩ := he
   exact .cons (exportV_sound ho h.1 h1) (exportVs_sound ho h.2 h2)
  ·simp at he
end
end Go.AM
namespace Go.AM
open Go Go.RowKit
def rowIn (φ : Nat → Row) (ws : List WRef) (i : Nat) : Row :=
 match ws with
 | [] => ⟨0, 0, 0⟩
 | w :: ws => if w.i = i then (match w.fresh with | none => φ w.r | some _ => ⟨0, 0, 0⟩) else rowIn φ ws i
inductive ArgAt (X : Ctx) (μ : Mu) (r0 i : Nat) (rs : List Nat) (ws : List WRef) : V → Value → Prop
 | plain {a : V} {v : Value} (hp : V.isPure a = true) (hs : SnapOk X μ rs a v) : ArgAt X μ r0 i rs ws a v
 | sl {r g off len : Nat} {es : List V} {v : Value} (hw : (⟨i, r, none⟩ : WRef) ∈ ws) (hes : (μ.O r).es = some es) (hfz : (μ.O r).fz = false) (hgen : (μ.O r).gen = g) (hpu : V.arePure es = true)
   (hfit : off + len ≤ es.length) (hv : VRel X μ (.sl r g off len) v) : ArgAt X μ r0 i rs ws (.msl (μ.O r).sz es off len) v
 | ptr {r g idx off : Nat} {es : List V} {v : Value} (hw : (⟨i, r, none⟩ : WRef) ∈ ws) (hes : (μ.O r).es = some es) (hfz : (μ.O r).fz = false) (hgen : (μ.O r).gen = g) (hpu : V.arePure es = true)
   (hv : VRel X μ (.ptr r g idx off) v) : ArgAt X μ r0 i rs ws (.mptr (μ.O r).sz es idx off) v
 | fresh {sz : Nat} {v : Value} (hw : (⟨i, r0 + i, some sz⟩ : WRef) ∈ ws) (hsz : 0 < sz) (hv : ∃ a, v = .slice a 0 0) : ArgAt X μ r0 i rs ws (.msl sz [] 0 0) v
section
variable {X : Ctx} {μ : Mu} {r0 : Nat}
theorem ArgAt.more {i : Nat} {rs rs' : List Nat} {ws ws' : List WRef} {a : V} {v : Value} (h : ArgAt X μ r0 i rs ws a v) (h1 : ∀ r ∈ rs, r ∈ rs') (h2 : ∀ w ∈ ws, w ∈ ws') : ArgAt X μ r0 i rs' ws' a v := by
 cases h with
 | plain hp hs => exact .plain hp (hs.more h1)
 | sl hw a b c d e f => exact .sl (h2 _ hw) a b c d e f
 | ptr hw a b c d f => exact .ptr (h2 _ hw) a b c d f
 | fresh hw a b => exact .fresh (h2 _ hw) a b
theorem Prep.at {i : Nat} {as : List V} {vs : List Value} {rs : List Nat} {ws : List WRef} (h : Prep X μ r0 i as vs rs ws) :
  as.length = vs.length ∧ (∀ w ∈ ws, i ≤ w.i) ∧ (∀ t a, as[t]? = some a → ∃ v, vs[t]? = some v ∧ ArgAt X μ r0 (i + t) rs ws a v) := by
 induction h with
 | nil i => simp
 | @plain i a v rs rs' as vs ws hp hs h ih =>
  obtain ⟨i1, i2, i3⟩ := ih
  refine ⟨by simp [i1], fun w hw => by have := i2 w hw; omega, fun t b hb => ?_⟩
  cases t with
  | zero => simp at hb; subst hb; exact ⟨v, by simp, .plain hp (hs.more (by simp +contextual))⟩
  | succ t =>
   obtain ⟨v', k1, k2⟩ := i3 t b (by simpa using hb)
   refine ⟨v', by simpa using k1, ?_⟩
   have e : i + (t + 1) = i + 1 + t := by omega
   rw [e]; exact k2.more (by simp +contextual) (fun w hw => hw)
 | @sl i r g off len es v rs as vs ws hes hfz hgen hpu hfit hv h ih =>
  obtain ⟨i1, i2, i3⟩ := ih
  refine ⟨by simp [i1], fun w hw => ?_, fun t b hb => ?_⟩
  ·rcases List.mem_cons.1 hw with rfl | hw
   ·exact Nat.le_refl _
   ·have := i2 w hw; omega
  ·cases t with
   | zero => simp at hb; subst hb; exact ⟨v, by simp, .sl (by simp) hes hfz hgen hpu hfit hv⟩
   | succ t =>
    obtain ⟨v', k1, k2⟩ := i3 t b (by simpa using hb)
    refine ⟨v', by simpa using k1, ?_⟩
    have e : i + (t + 1) = i + 1 + t := by omega
    rw [e]; exact k2.more (fun r hr => hr) (fun w hw => by simp [hw])
 | @ptr i r g idx off es v rs as vs ws hes hfz hgen hpu hv h ih =>
  obtain ⟨i1, i2, i3⟩ := ih
  refine ⟨by simp [i1], fun w hw => ?_, fun t b hb => ?_⟩
  ·rcases List.mem_cons.1 hw with rfl | hw
   ·exact Nat.le_refl _
   ·have := i2 w hw; omega
  ·cases t with
   | zero => simp at hb; subst hb; exact ⟨v, by simp, .ptr (by simp) hes hfz hgen hpu hv⟩
   | succ t =>
    obtain ⟨v', k1, k2⟩ := i3 t b (by simpa using hb)
    refine ⟨v', by simpa using k1, ?_⟩
    have e : i + (t + 1) = i + 1 + t := by omega
    rw [e]; exact k2.more (fun r hr => hr) (fun w hw => by simp [hw])
 | @fresh i sz v rs as vs ws hsz hv h ih =>
  obtain ⟨i1, i2, i3⟩ := ih
  refine ⟨by simp [i1], fun w hw => ?_, fun t b hb => ?_⟩
  ·rcases List.mem_cons.1 hw with rfl | hw
   ·exact Nat.le_refl _
   ·have := i2 w hw; omega
  ·cases t with
   | zero => simp at hb; subst hb; exact ⟨v, by simp, .fresh (by simp) hsz hv⟩
   | succ t =>
    obtain ⟨v', k1, k2⟩ := i3 t b (by simpa using hb)
    refine ⟨v', by simpa using k1, ?_⟩
    have e : i + (t + 1) = i + 1 + t := by omega
    rw [e]; exact k2.more (fun r hr => hr) (fun w hw => by simp [hw])
inductive Inc : Nat → List WRef → Prop
 | nil (i : Nat) : Inc i []
 | cons {i : Nat} {w : WRef} {ws : List WRef} (h : i ≤ w.i) (hs : Inc (w.i + 1) ws) : Inc i (w :: ws)
theorem Inc.le {i j : Nat} {ws : List WRef} (h : Inc j ws) (hij : i ≤ j) : Inc i ws := by
 cases h with
 | nil => exact .nil _
 | cons h hs => exact .cons (by omega) hs
theorem Inc.mem {i : Nat} {ws : List WRef} (h : Inc i ws) : ∀ w ∈ ws, i ≤ w.i := by
 induction h with
 | nil => simp
 | cons h hs ih =>
  intro w hw
  rcases List.mem_cons.1 hw with rfl | hw
  ·exact h
  ·have := ih w hw; omega
theorem Prep.inc {i : Nat} {as : List V} {vs : List Value} {rs : List Nat} {ws : List WRef} (h : Prep X μ r0 i as vs rs ws) : Inc i ws := by
 induction h with
 | nil i => exact .nil i
 | plain hp hs h ih => exact ih.le (by omega)
 | sl _ _ _ _ _ _ h ih => exact .cons (by simp) ih
 | ptr _ _ _ _ _ h ih => exact .cons (by simp) ih
 | fresh _ _ h ih => exact .cons (by simp) ih
theorem rowIn_mem {φ : Nat → Row} {i : Nat} {ws : List WRef} (h : Inc i ws) : ∀ w ∈ ws, rowIn φ ws w.i = (match w.fresh with | none => φ w.r | some _ => ⟨0, 0, 0⟩) := by
 induction h with
 | nil => simp
 | @cons i w ws h hs ih =>
  intro w' hw
  rcases List.mem_cons.1 hw with rfl | hw
  ·simp [rowIn]
  ·have := hs.mem w' hw
   rw [rowIn, if_neg (by omega)]
   exact ih w' hw
theorem distinct_uniq : ∀ {ws : List WRef}, distinct (ws.map (·.r)) = true → ∀ w ∈ ws, ∀ w' ∈ ws, w.r = w'.r → w = w'
 | [], _, _, h, _, _, _ => by simp at h
 | w :: ws, hd, a, ha, b, hb, e => by
  simp only [List.map_cons, distinct, Bool.and_eq_true, Bool.not_eq_true', List.contains_eq_mem, decide_eq_false_iff_not] at hd
  rcases List.mem_cons.1 ha with ha | ha <;> rcases List.mem_cons.1 hb with hb | hb
  ·rw [ha, hb]
  ·exact absurd (List.mem_map.2 ⟨b, hb, by rw [← e, ha]⟩) hd.1
  ·exact absurd (List.mem_map.2 ⟨a, ha, by rw [e, hb]⟩) hd.1
  ·exact distinct_uniq hd.2 a ha b hb e
def banned (X : Ctx) (μ : Mu) (rs : List Nat) (ws : List WRef) (b : Nat) : Prop :=
 X.ban b ∨ ∃ r, r ∉ rs ∧ r ∉ ws.map (·.r) ∧ (μ.O r).es.isSome = true ∧ (μ.O r).fz = false ∧ (μ.φ r).cap ≠ 0 ∧ (μ.φ r).blk = b
theorem entry_obj {as : List V} {vals : List Value} {rs : List Nat} {ws : List WRef} (hp : Prep X μ r0 0 as vals rs ws) (j : Nat) :
  (enter as).O j = deadObj ∨
  (∃ r es, (⟨j, r, none⟩ : WRef) ∈ ws ∧ (μ.O r).es = some es ∧ (μ.O r).fz = false ∧ V.arePure es = true ∧ ((enter as).O j).gen = 0 ∧ ((enter as).O j).sz = (μ.O r).sz ∧ ((enter as).O j).fz = false ∧ ((enter as).O j).es = some es ∧ rowIn μ.φ ws j = μ.φ r) ∨
  (∃ sz, (⟨j, r0 + j, some sz⟩ : WRef) ∈ ws ∧ 0 < sz ∧ ((enter as).O j).gen = 0 ∧ ((enter as).O j).sz = sz ∧ ((enter as).O j).fz = false ∧ ((enter as).O j).es = some [] ∧ rowIn μ.φ ws j = ⟨0, 0, 0⟩) := by
 obtain ⟨hl, -, hat⟩ := hp.at
 have hi := hp.inc
 cases ha : as[j]? with
 | none => left; simp [enter, ha]
 | some a =>
  obtain ⟨v, hv, hA⟩ := hat j a ha
  simp only [Nat.zero_add] at hA
  cases hA with
  | plain hpu hs =>
   left
   cases a <;> simp [V.isPure] at hpu <;> simp [enter, ha]
  | @sl r g off len es v hw hes hfz hgen hpu hfit hvr =>
   right; left
   exact ⟨r, es, hw, hes, hfz, hpu, by simp [enter, ha], by simp [enter, ha], by simp [enter, ha], by simp [enter, ha], by have := rowIn_mem (φ := μ.φ) hi _ hw; simpa using this⟩
  | @ptr r g idx off es v hw hes hfz hgen hpu hvr =>
   right; left
   exact ⟨r, es, hw, hes, hfz, hpu, by simp [enter, ha], by simp [enter, ha], by simp [enter, ha], by simp [enter, ha], by have := rowIn_mem (φ := μ.φ) hi _ hw; simpa using this⟩
  | @fresh sz v hw hsz hvr =>
   right; right
   exact ⟨sz, hw, hsz, by simp [enter, ha], by simp [enter, ha], by simp [enter, ha], by simp [enter, ha], by have := rowIn_mem (φ := μ.φ) hi _ hw; simpa using this⟩
theorem entry_own {as : List V} {vals : List Value} {rs : List Nat} {ws : List WRef} (hp : Prep X μ r0 0 as vals rs ws) {b : Nat} (h : (⟨μ.w, rowIn μ.φ ws, (enter as).O⟩ : Mu).own b) :
  ∃ i r, (⟨i, r, none⟩ : WRef) ∈ ws ∧ (μ.O r).es.isSome = true ∧ (μ.O r).fz = false ∧ (μ.φ r).cap ≠ 0 ∧ (μ.φ r).blk = b := by
 obtain ⟨j, h1, h2, h3, h4⟩ := h
 simp only at h1 h2 h3 h4
 rcases entry_obj hp j with h | ⟨r, es, k1, k2, k3, k4, k5, k6, k7, k8, k9⟩ | ⟨sz, k1, k2, k3, k4, k5, k6, k7⟩
 ·rw [h] at h1; simp [deadObj] at h1
 ·rw [k9] at h3 h4
  exact ⟨j, r, k1, by simp [k2], k3, h3, h4⟩
 ·rw [k7] at h3; simp at h3
theorem entry_Own {as : List V} {vals : List Value} {rs : List Nat} {ws : List WRef} (ho : Objs X μ) (hp : Prep X μ r0 0 as vals rs ws) (hap : apart rs (ws.map (·.r)) = true) {b : Nat}
  (h : Own ⟨X.toTrEnv, banned X μ rs ws⟩ ⟨μ.w, rowIn μ.φ ws, (enter as).O⟩ b) :
  Own X μ b ∧ ∀ r ∈ rs, (μ.O r).es.isSome = true → (μ.φ r).cap ≠ 0 → b ≠ (μ.φ r).blk := by
 rcases h with h | h
 ·obtain ⟨i, r, h1, h2, h3, h4, h5⟩ := entry_own hp h
  refine ⟨.inl ⟨r, h2, h3, h4, h5⟩, fun r' hr' k1 k2 e => ?_⟩
  have hne : r ≠ r' := by
   rintro rfl
   have := List.all_eq_true.1 hap r (List.mem_map.2 ⟨_, h1, rfl⟩)
   simp [hr'] at this
  exact ho.inj r r' hne h2 k1 h4 k2 (h5.trans e)
 ·rcases h with h | ⟨r, h0, h1, h2, h3, h4, h5⟩
  ·refine ⟨.inr h, fun r' hr' k1 k2 e => ho.nob r' k1 k2 (e ▸ h)⟩
  ·refine ⟨.inl ⟨r, h2, h3, h4, h5⟩, fun r' hr' k1 k2 e => ?_⟩
   have hne : r ≠ r' := fun e => h0 (e ▸ hr')
   exact ho.inj r r' hne h2 k1 h4 k2 (h5.trans e)
theorem entry_sound {as : List V} {vals : List Value} {rs : List Nat} {ws : List WRef} (ho : Objs X μ) (hp : Prep X μ r0 0 as vals rs ws) (hap : apart rs (ws.map (·.r)) = true) (hd : distinct (ws.map (·.r)) = true) :
  vals.length = as.length ∧ (∀ t v, vals[t]? = some v → VRel ⟨X.toTrEnv, banned X μ rs ws⟩ ⟨μ.w, rowIn μ.φ ws, (enter as).O⟩ ((enter as).T t) v) ∧
   Objs ⟨X.toTrEnv, banned X μ rs ws⟩ ⟨μ.w, rowIn μ.φ ws, (enter as).O⟩ := by
 have hown := fun b => entry_Own (b := b) ho hp hap
 obtain ⟨hl, -, hat⟩ := hp.at
 have hi := hp.inc
 refine ⟨hl.symm, fun t v hv => ?_, ?_⟩
 ·have ha : t < as.length := by rw [hl]; exact (List.getElem?_eq_some_iff.1 hv).1
  obtain ⟨v', hv', hA⟩ := hat t as[t] (List.getElem?_eq_getElem ha)
  rw [hv] at hv'; injection hv' with hv'; subst hv'
  have hat' : as[t]? = some as[t] := List.getElem?_eq_getElem ha
  simp only [Nat.zero_add] at hA
  generalize hae : as[t] = a at hA hat'
  cases hA with
  | plain hpu hs =>
   have : (enter as).T t = a := by cases a <;> simp [V.isPure] at hpu <;> simp [enter, hat']
   rw [this]
   exact hs _ _ rfl hown
  | @sl r g off len es v hw hes hfz hgen hpu hfit hvr =>
   have e1 : (enter as).T t = .sl t 0 off len := by simp [enter, hat']
   have e2 : ((enter as).O t).gen = 0 ∧ ((enter as).O t).sz = (μ.O r).sz := by simp [enter, hat']
   have e3 : rowIn μ.φ ws t = μ.φ r := by have := rowIn_mem (φ := μ.φ) hi _ hw; simpa using this
   rw [e1]
   simp only [VRel] at hvr ⊢
   obtain ⟨a, cap, rfl, q1, q2, q3⟩ := hvr
   refine ⟨a, cap, rfl, q1, Nat.zero_le _, fun _ => ?_⟩
   rw [e2.2, e3]; exact q3 hgen
  | @ptr r g idx off es v hw hes hfz hgen hpu hvr =>
   have e1 : (enter as).T t = .ptr t 0 idx off := by simp [enter, hat']
   have e2 : ((enter as).O t).gen = 0 ∧ ((enter as).O t).sz = (μ.O r).sz := by simp [enter, hat']
   have e3 : rowIn μ.φ ws t = μ.φ r := by have := rowIn_mem (φ := μ.φ) hi _ hw; simpa using this
   rw [e1]
   simp only [VRel] at hvr ⊢
   obtain ⟨a, rfl, q2, q3⟩ := hvr
   refine ⟨a, rfl, Nat.zero_le _, fun _ => ?_⟩
   rw [e2.2, e3]; exact q3 hgen
  | @fresh sz v hw hsz hvr =>
   have e1 : (enter as).T t = .sl t 0 0 0 := by simp [enter, hat']
   have e3 : rowIn μ.φ ws t = ⟨0, 0, 0⟩ := by have := rowIn_mem (φ := μ.φ) hi _ hw; simpa using this
   rw [e1]
   obtain ⟨a, rfl⟩ := hvr
   simp only [VRel]
   exact ⟨a, 0, rfl, Nat.le_refl _, Nat.zero_le _, fun _ => ⟨by simp [enter, hat', hsz], by rw [e3], .inl rfl⟩⟩
 ·refine ⟨fun j es hes => ?_, fun j1 j2 hne h1 h2 h3 h4 => ?_, fun j h1 h2 hb => ?_, fun b hb => ?_⟩
  ·rcases entry_obj hp j with h | ⟨r, es', k1, k2, k3, k4, k5, k6, k7, k8, k9⟩ | ⟨sz, k1, k2, k3, k4, k5, k6, k7⟩
   ·simp only [h, deadObj] at hes; simp at hes
   ·simp only at hes
    rw [k8] at hes; injection hes with hes; subst hes
    rcases ho.ok r es' k2 with ⟨q1, q2, q3, q4⟩ | ⟨m1, m2, ob, m3, m4⟩
    ·refine .inl ?_
     unfold RowOk
     simp only [k6, k9]
     refine ⟨q1, q2, q3, q4.imp id ?_⟩
     rintro ⟨c, T, vs, p1, p2, p3, p4⟩
     exact ⟨c, T, vs, p1, p2, pures_transfer (X := X) (μ := μ) (μ' := ⟨μ.w, rowIn μ.φ ws, (enter as).O⟩) rfl (fun b hb => (hown b hb).1) k4 p3, p4⟩
    ·refine .inr ?_
     unfold MapOk
     simp only [k6, k9]
     exact ⟨m1, m2, ob, m3, m4.imp (fun ⟨ents, clock, e1, e2⟩ => ⟨ents, clock, e1, pures_transfer (X := X) (μ := μ) (μ' := ⟨μ.w, rowIn μ.φ ws, (enter as).O⟩) rfl (fun b hb => (hown b hb).1) k4 e2⟩) id⟩
   ·simp only at hes
    rw [k6] at hes; injection hes with hes; subst hes
    refine .inl ?_
    unfold RowOk
    simp only [k4, k7]
    exact ⟨k2, by simp, rfl, by simp⟩
  ·simp only at h1 h2 h3 h4 ⊢
   rcases entry_obj hp j1 with h | ⟨r, es', k1, k2, k3, k4, k5, k6, k7, k8, k9⟩ | ⟨sz, k1, k2, k3, k4, k5, k6, k7⟩
   ·rw [h] at h1; simp [deadObj] at h1
   ·rcases entry_obj hp j2 with h | ⟨r', es2, l1, l2, l3, l4, l5, l6, l7, l8, l9⟩ | ⟨sz, l1, l2, l3, l4, l5, l6, l7⟩
    ·rw [h] at h2; simp [deadObj] at h2
    ·rw [k9] at h3 ⊢
     rw [l9] at h4 ⊢
     refine ho.inj r r' (fun e => ?_) (by simp [k2]) (by simp [l2]) h3 h4
     have := distinct_uniq hd _ k1 _ l1 e
     injection this with e1; exact hne e1
    ·rw [l7] at h4; simp at h4
   ·rw [k7] at h3; simp at h3
  ·simp only at h1 h2 hb
   rcases entry_obj hp j with h | ⟨r, es', k1, k2, k3, k4, k5, k6, k7, k8, k9⟩ | ⟨sz, k1, k2, k3, k4, k5, k6, k7⟩
   ·rw [h] at h1; simp [deadObj] at h1
   ·rw [k9] at h2 hb
    rcases hb with hb | ⟨r', g0, g1, g2, g3, g4, g5⟩
    ·exact ho.nob r (by simp [k2]) h2 hb
    ·have hne : r' ≠ r := fun e => g1 (List.mem_map.2 ⟨_, k1, e.symm⟩)
     exact ho.inj r' r hne g2 (by simp [k2]) g4 h2 g5
   ·rw [k7] at h2; simp at h2
  ·rcases hb with hb | ⟨r', g0, g1, g2, g3, g4, g5⟩
   ·exact ho.blt b hb
   ·obtain ⟨es', he⟩ := Option.isSome_iff_exists.1 g2
    rw [← g5]; exact ObjOk.blk (ho.ok r' es' he) g4
end
end Go.AM
namespace Go.AM
open Go Go.RowKit
theorem freezeAll_sound {X : Ctx} {C : Oracle} {T : Nat → V} {w : World} {φ : Nat → Row} : ∀ (rs : List Nat) {O : Nat → Obj} {k : Act} {p : V × St}, Objs X ⟨w, φ, O⟩ → (freezeAll rs k).run C ⟨T, O⟩ = some p →
  ∃ O', k.run C ⟨T, O'⟩ = some p ∧ Le ⟨w, φ, O⟩ ⟨w, φ, O'⟩ ∧ Objs X ⟨w, φ, O'⟩ ∧ (∀ r, r ∉ rs → O' r = O r) ∧ (∀ r, r ∈ rs → O' r = { O r with fz := true })
 | [], O, k, p, ho, h => ⟨O, h, Le.refl _, ho, fun _ _ => rfl, fun r hr => by simp at hr⟩
 | q :: rs, O, k, p, ho, h => by
  simp only [freezeAll, Act.run] at h
  obtain ⟨l1, o1⟩ := freeze_obj ho q
  obtain ⟨O', h1, h2, h3, h4, h5⟩ := freezeAll_sound rs o1 h
  refine ⟨O', h1, l1.trans h2, h3, fun r hr => ?_, fun r hr => ?_⟩
  ·have hr' : r ≠ q ∧ r ∉ rs := by simpa using hr
   rw [h4 r hr'.2, upd_ne _ _ hr'.1]
  ·by_cases hm : r ∈ rs
   ·rw [h5 r hm]
    by_cases e : r = q
    ·subst e; simp [upd_same]
    ·simp [upd_ne _ _ e]
   ·have e : r = q := by
     rcases List.mem_cons.1 hr with e | hr
     ·exact e
     ·exact absurd hr hm
    subst e
    rw [h4 r hm, upd_same]
section
variable {X X' : Ctx} {μ μ' : Mu}
mutual
theorem weaken (hX : X'.toTrEnv = X.toTrEnv) (hw : μ'.w = μ.w) (hφ : μ'.φ = μ.φ) (hO : ∀ r, (μ'.O r).gen = (μ.O r).gen ∧ (μ'.O r).sz = (μ.O r).sz) (ho : ∀ b, Own X' μ' b → Own X μ b) : ∀ {x : V} {v : Value}, VRel X μ x v → VRel X' μ' x v
 | .bool _, _, h | .int .., _, h | .float _, _, h | .str _, _, h | .nilp, _, h | .nilfn, _, h | .nili, _, h | .nils, _, h => by simpa [VRel] using h
 | .any, _, _ => by simp [VRel]
 | .own .., _, h | .msl .., _, h | .mptr .., _, h => by simp [VRel] at h
 | .agg cs, _, h => by
  simp only [VRel] at h ⊢
  obtain ⟨h1, vs, rfl, h2⟩ := h
  exact ⟨h1, vs, rfl, weakens hX hw hφ hO ho h2⟩
 | .tuple cs, _, h => by
  simp only [VRel] at h ⊢
  obtain ⟨vs, rfl, h2⟩ := h
  exact ⟨vs, rfl, weakens hX hw hφ hO ho h2⟩
 | .fn f cs, _, h => by
  simp only [VRel] at h ⊢
  obtain ⟨F, cv, rfl, h1, h2⟩ := h
  exact ⟨F, cv, rfl, by rw [hX]; exact h1, weakens hX hw hφ hO ho h2⟩
 | .iface t x, _, h => by
  simp only [VRel] at h ⊢
  obtain ⟨F, y, rfl, h1, h2⟩ := h
  exact ⟨F, y, rfl, by rw [hX]; exact h1, weaken hX hw hφ hO ho h2⟩
 | .lit sz xs, _, h => by
  simp only [VRel] at h ⊢
  obtain ⟨h0, h0', a, cap, vs, rfl, h1, h2, h3⟩ := h
  refine ⟨h0, h0', a, cap, vs, rfl, h1, weakens hX hw hφ hO ho h2, h3.imp id ?_⟩
  rintro ⟨b, o, rfl, hb, hs, hr⟩
  exact ⟨b, o, rfl, fun hh => hb (ho b hh), by rw [hw]; exact hs, by rw [hw]; exact hr⟩
 | .sl r g off len, _, h => by
  simp only [VRel] at h ⊢
  rw [hφ, (hO r).1, (hO r).2]; exact h
 | .ptr r g idx off, _, h => by
  simp only [VRel] at h ⊢
  rw [hφ, (hO r).1, (hO r).2]; exact h
 | .eptr e off, _, h => by
  simp only [VRel] at h ⊢
  obtain ⟨h0, h0', b, o, sz, x, rfl, hb, hs, h1, hr⟩ := h
  exact ⟨h0, h0', b, o, sz, x, rfl, fun hh => hb (ho b hh), by rw [hw]; exact hs, weaken hX hw hφ hO ho h1, by rw [hw]; exact hr⟩
 | .mp r g, _, h | .it r g, _, h => by
  simp only [VRel] at h ⊢
  rw [hφ, (hO r).1, (hO r).2]; exact h
 | .mlit es, _, h => by
  simp only [VRel] at h ⊢
  obtain ⟨h0, h⟩ := h
  refine ⟨h0, h.imp id ?_⟩
  rintro ⟨a, ents, clock, rfl, hb, hs, h1, h2⟩
  exact ⟨a, ents, clock, rfl, fun hh => hb (ho a hh), by rw [hw]; exact hs, by rw [hw]; exact h1, weakens hX hw hφ hO ho h2⟩
theorem weakens (hX : X'.toTrEnv = X.toTrEnv) (hw : μ'.w = μ.w) (hφ : μ'.φ = μ.φ) (hO : ∀ r, (μ'.O r).gen = (μ.O r).gen ∧ (μ'.O r).sz = (μ.O r).sz) (ho : ∀ b, Own X' μ' b → Own X μ b) : ∀ {xs : List V} {vs : List Value}, VRels X μ xs vs → VRels X' μ' xs vs
 | [], [], _ => by simp [VRels]
 | [], _ :: _, h => by simp [VRels] at h
 | _ :: _, [], h => by simp [VRels] at h
 | x :: xs, v :: vs, h => by
  simp only [VRels] at h ⊢
  exact ⟨weaken hX hw hφ hO ho h.1, weakens hX hw hφ hO ho h.2⟩
end
mutual
theorem scalar_transfer (hX : X'.toTrEnv = X.toTrEnv) : ∀ {x : V} {v : Value}, V.isScalar x = true → VRel X μ x v → VRel X' μ' x v
 | .bool _, _, _, h | .int .., _, _, h | .float _, _, _, h | .str _, _, _, h | .nilp, _, _, h | .nilfn, _, _, h | .nili, _, _, h | .nils, _, _, h => by simpa [VRel] using h
 | .any, _, hp, _ | .own .., _, hp, _ | .msl .., _, hp, _ | .mptr .., _, hp, _ | .sl .., _, hp, _ | .ptr .., _, hp, _ | .lit .., _, hp, _ | .eptr .., _, hp, _ | .mp .., _, hp, _ | .it .., _, hp, _ | .mlit .., _, hp, _ | .fn .., _, hp, _ | .iface .., _, hp, _ => by simp [V.isScalar] at hp
 | .agg cs, _, hp, h => by
  simp only [VRel] at h ⊢
  obtain ⟨h1, vs, rfl, h2⟩ := h
  exact ⟨h1, vs, rfl, scalars_transfer hX (by simpa [V.isScalar] using hp) h2⟩
 | .tuple cs, _, hp, h => by
  simp only [VRel] at h ⊢
  obtain ⟨vs, rfl, h2⟩ := h
  exact ⟨vs, rfl, scalars_transfer hX (by simpa [V.isScalar] using hp) h2⟩
theorem scalars_transfer (hX : X'.toTrEnv = X.toTrEnv) : ∀ {xs : List V} {vs : List Value}, V.areScalar xs = true → VRels X μ xs vs → VRels X' μ' xs vs
 | [], [], _, _ => by simp [VRels]
 | [], _ :: _, _, h => by simp [VRels] at h
 | _ :: _, [], _, h => by simp [VRels] at h
 | x :: xs, v :: vs, hp, h => by
  simp only [VRels] at h ⊢
  simp only [V.areScalar, Bool.and_eq_true] at hp
  exact ⟨scalar_transfer hX hp.1 h.1, scalars_transfer hX hp.2 h.2⟩
end
end
structure Took (Y : Ctx) (μf μ1 : Mu) (r j : Nat) (row : Row) (o : Obj) : Prop where
 es : ∃ es, o.es = some es ∧ V.arePure es = true ∧ 0 < o.sz ∧ es.length ≤ row.cap ∧ es.all (isBlank · o.sz) = true ∧
  (row.cap = 0 ∨ ∃ c T vs, μ1.w.heap[row.blk]? = some (.cells c T (0, 0)) ∧ row.base + row.cap * o.sz ≤ c.size ∧ VRels Y μ1 es vs ∧ RowAt μ1.w row.blk row.base o.sz vs)
 live : (μ1.O j).es.isSome = true ∧ (μ1.O j).fz = false
 blk : row.cap ≠ 0 → (μ1.φ j).cap ≠ 0 ∧ row.blk = (μ1.φ j).blk
 gen : (μf.O r).gen < o.gen ∨ (o.gen = (μf.O r).gen ∧ row = μf.φ r ∧ o.sz = (μf.O r).sz)
 sc : (∀ es, (μ1.O j).es = some es → V.areScalar es = true) → ∀ es, o.es = some es → V.areScalar es = true
structure Taken (Y : Ctx) (μf μ1 : Mu) (U : Nat → Prop) (A : Nat → Option Nat) (φ : Nat → Row) (O : Nat → Obj) : Prop where
 non : ∀ r, A r = none → O r = μf.O r ∧ φ r = μf.φ r
 som : ∀ r j, A r = some j → Took Y μf μ1 r j (φ r) (O r) ∧ U j
 inj : ∀ r1 r2 j, A r1 = some j → A r2 = some j → r1 = r2
def GMono (φ : Nat → Row) (O : Nat → Obj) (φ' : Nat → Row) (O' : Nat → Obj) : Prop :=
 ∀ r, (O r).gen ≤ (O' r).gen ∧ ((O' r).gen = (O r).gen → φ' r = φ r ∧ (O' r).sz = (O r).sz)
theorem GMono.refl (φ : Nat → Row) (O : Nat → Obj) : GMono φ O φ O := fun _ => ⟨Nat.le_refl _, fun _ => ⟨rfl, rfl⟩⟩
theorem GMono.trans {φ φ' φ'' : Nat → Row} {O O' O'' : Nat → Obj} (h : GMono φ O φ' O') (k : GMono φ' O' φ'' O'') : GMono φ O φ'' O'' := fun r => by
 obtain ⟨h1, h2⟩ := h r
 obtain ⟨k1, k2⟩ := k r
 refine ⟨Nat.le_trans h1 k1, fun e => ?_⟩
 obtain ⟨a1, a2⟩ := h2 (by omega)
 obtain ⟨b1, b2⟩ := k2 (by omega)
 exact ⟨b1.trans a1, b2.trans a2⟩
def RefOk (μ1 : Mu) (φ : Nat → Row) (O : Nat → Obj) (i r g : Nat) : Prop := g ≤ (O r).gen ∧ ((O r).gen = g → φ r = μ1.φ i ∧ (O r).sz = (μ1.O i).sz)
theorem RefOk.mono {μ1 : Mu} {φ φ' : Nat → Row} {O O' : Nat → Obj} {i r g : Nat} (h : RefOk μ1 φ O i r g) (m : GMono φ O φ' O') : RefOk μ1 φ' O' i r g := by
 obtain ⟨m1, m2⟩ := m r
 refine ⟨Nat.le_trans h.1 m1, fun e => ?_⟩
 have := h.1
 obtain ⟨a1, a2⟩ := m2 (by omega)
 obtain ⟨b1, b2⟩ := h.2 (by omega)
 exact ⟨a1.trans b1, a2.trans b2⟩
theorem Taken.take {Y : Ctx} {μf μ1 : Mu} {U U' : Nat → Prop} {A : Nat → Option Nat} {φ : Nat → Row} {O : Nat → Obj} (h : Taken Y μf μ1 U A φ O) {r j : Nat} {row : Row} {o : Obj} (hj : ¬ U j) (hU : ∀ i, U i → U' i) (hUj : U' j)
  (ht : Took Y μf μ1 r j row o) : Taken Y μf μ1 U' (upd A r (some j)) (upd φ r row) (upd O r o) where
 non := fun r' e => by
  by_cases e' : r' = r
  ·subst e'; simp [upd_same] at e
  ·rw [upd_ne _ _ e'] at e ⊢; rw [upd_ne _ _ e']; exact h.non r' e
 som := fun r' j' e => by
  by_cases e' : r' = r
  ·subst e'; simp only [upd_same] at e ⊢; injection e with e; subst e; exact ⟨ht, hUj⟩
  ·rw [upd_ne _ _ e'] at e ⊢; rw [upd_ne _ _ e']
   obtain ⟨k1, k2⟩ := h.som r' j' e
   exact ⟨k1, hU _ k2⟩
 inj := fun r1 r2 j' e1 e2 => by
  by_cases q1 : r1 = r <;> by_cases q2 : r2 = r
  ·rw [q1, q2]
  ·subst q1
   simp only [upd_same] at e1; injection e1 with e1; subst e1
   rw [upd_ne _ _ q2] at e2
   exact absurd (h.som r2 _ e2).2 hj
  ·subst q2
   simp only [upd_same] at e2; injection e2 with e2; subst e2
   rw [upd_ne _ _ q1] at e1
   exact absurd (h.som r1 _ e1).2 hj
  ·rw [upd_ne _ _ q1] at e1
   rw [upd_ne _ _ q2] at e2
   exact h.inj r1 r2 j' e1 e2
theorem GMono.upd {φ : Nat → Row} {O : Nat → Obj} {r : Nat} {row : Row} {o : Obj} (h : (O r).gen < o.gen ∨ (o.gen = (O r).gen ∧ row = φ r ∧ o.sz = (O r).sz)) : GMono φ O (upd φ r row) (upd O r o) := fun r' => by
 by_cases e : r' = r
 ·subst e
  simp only [upd_same]
  rcases h with h | ⟨h1, h2, h3⟩
  ·exact ⟨by omega, fun e => by omega⟩
  ·exact ⟨by omega, fun _ => ⟨h2, h3⟩⟩
 ·simp [upd_ne _ _ e]
end Go.AM
namespace Go.AM
open Go Go.RowKit
section
variable {X Y : Ctx} {μ μf μ1 : Mu} {r0 : Nat} {C : Oracle} {T : Nat → V}
theorem took_whole (h1 : Objs Y μ1) {r i : Nat} {es : List V} {o : Obj} (h0 : 0 < (μ1.O i).sz) (hes : (μ1.O i).es = some es) (hfz : (μ1.O i).fz = false) (hp : V.arePure es = true) (ho : o.es = some es) (hsz : o.sz = (μ1.O i).sz)
  (hg : (μf.O r).gen < o.gen ∨ (o.gen = (μf.O r).gen ∧ μ1.φ i = μf.φ r ∧ o.sz = (μf.O r).sz)) : Took Y μf μ1 r i (μ1.φ i) o := by
 obtain ⟨q1, q2, q3, q4⟩ := h1.row i es hes h0
 refine ⟨⟨es, ho, hp, by rw [hsz]; exact q1, q2, by rw [hsz]; exact q3, ?_⟩, ⟨by simp [hes], hfz⟩, fun hc => ⟨hc, rfl⟩, hg, fun hs es' he => ?_⟩
 ·rw [hsz]; exact q4
 ·rw [ho] at he; injection he with he; subst he; exact hs _ hes
theorem outs_cons_sl {O : Nat → Obj} {i sz off len : Nat} {es0 : List V} {as : List V} {outs : List (Nat × List V)} (h : outsOf O i (.msl sz es0 off len :: as) = some outs) :
  ∃ es outs', (O i).es = some es ∧ outsOf O (i + 1) as = some outs' ∧ (O i).fz = false ∧ (O i).sz = sz ∧ V.arePure es = true ∧ outs = ((O i).gen, es) :: outs' := by
 simp only [outsOf] at h
 split at h
 ·rename_i es outs' h1 h2
  split at h
  ·rename_i hc
   injection h with h
   exact ⟨es, outs', h1, h2, hc.1, hc.2.1, hc.2.2, h.symm⟩
  ·simp at h
 ·simp at h
theorem outs_cons_ptr {O : Nat → Obj} {i sz off len : Nat} {es0 : List V} {as : List V} {outs : List (Nat × List V)} (h : outsOf O i (.mptr sz es0 off len :: as) = some outs) :
  ∃ es outs', (O i).es = some es ∧ outsOf O (i + 1) as = some outs' ∧ (O i).fz = false ∧ (O i).sz = sz ∧ V.arePure es = true ∧ outs = ((O i).gen, es) :: outs' := by
 simp only [outsOf] at h
 split at h
 ·rename_i es outs' h1 h2
  split at h
  ·rename_i hc
   injection h with h
   exact ⟨es, outs', h1, h2, hc.1, hc.2.1, hc.2.2, h.symm⟩
  ·simp at h
 ·simp at h
theorem outs_cons_pure {O : Nat → Obj} {i : Nat} {a : V} {as : List V} (h : V.isPure a = true) : outsOf O i (a :: as) = outsOf O (i + 1) as := by
 cases a <;> simp [V.isPure] at h <;> rfl
theorem putOuts_sound (h1 : Objs Y μ1) {w0 : List WRef} (hrow : ∀ w ∈ w0, w.fresh = none → (μ1.O w.i).gen = 0 → μ1.φ w.i = μ.φ w.r) (hφ : μf.φ = μ.φ) (hOf : ∀ w ∈ w0, μf.O w.r = μ.O w.r) {S : Nat → Prop} (hS : ∀ w ∈ w0, S w.i) :
  ∀ {i : Nat} {as : List V} {vs : List Value} {rs : List Nat} {ws : List WRef}, Prep X μ r0 i as vs rs ws → ∀ {outs : List (Nat × List V)} {A : Nat → Option Nat} {φ : Nat → Row} {O : Nat → Obj} {k : List (Nat × Nat × Nat) → Act} {p : V × St},
   outsOf μ1.O i as = some outs → Taken Y μf μ1 (fun j => j < i ∧ S j) A φ O → (∀ w ∈ ws, w ∈ w0) → (∀ w ∈ ws, A w.r = none) → distinct (ws.map (·.r)) = true → (putOuts ws outs k).run C ⟨T, O⟩ = some p →
   ∃ A' φ' O' gs, (k gs).run C ⟨T, O'⟩ = some p ∧ Taken Y μf μ1 (fun j => j < i + as.length ∧ S j) A' φ' O' ∧ GMono φ O φ' O' ∧ (∀ w ∈ ws, A' w.r ≠ none) ∧ (∀ r, A r ≠ none → A' r ≠ none) ∧
    ∀ x ∈ gs, RefOk μ1 φ' O' x.1 x.2.1 x.2.2 := by
 intro i as vs rs ws hp
 induction hp with
 | nil i =>
  intro outs A φ O k p ho ht _ _ _ hrun
  simp [outsOf] at ho; subst ho
  exact ⟨A, φ, O, [], hrun, by simpa using ht, GMono.refl _ _, by simp, fun _ h => h, by simp⟩
 | @plain i a v rs rs' as vs ws hpu hs h ih =>
  intro outs A φ O k p ho ht hw hA hd hrun
  rw [outs_cons_pure hpu] at ho
  have ht' : Taken Y μf μ1 (fun j => j < i + 1 ∧ S j) A φ O := ⟨ht.non, fun r j e => ⟨(ht.som r j e).1, ⟨by have := (ht.som r j e).2.1; omega, (ht.som r j e).2.2⟩⟩, ht.inj⟩
  obtain ⟨A', φ', O', gs, k1, k2, k3, k4, k5, k6⟩ := ih ho ht' hw hA hd hrun
  refine ⟨A', φ', O', gs, k1, ?_, k3, k4, k5, k6⟩
  have e : i + (a :: as).length = i + 1 + as.length := by simp; omega
  rw [e]; exact k2
 | @sl i r g off len es0 v rs as vs ws hes hfz hgen hpu hfit hv h ih =>
  intro outs A φ O k p ho ht hw hA hd hrun
  obtain ⟨es, outs', o1, o2, o3, o4, o5, rfl⟩ := outs_cons_sl ho
  simp only [putOuts, Act.run] at hrun
  have hAr := hA ⟨i, r, none⟩ (by simp)
  simp only at hAr
  obtain ⟨n1, n2⟩ := ht.non r hAr
  have hOr : μf.O r = μ.O r := hOf ⟨i, r, none⟩ (hw _ (by simp))
  have hgen' : (μf.O r).gen < (O r).gen + (μ1.O i).gen ∨ ((O r).gen + (μ1.O i).gen = (μf.O r).gen ∧ μ1.φ i = μf.φ r ∧ (O r).sz = (μf.O r).sz) := by
   rw [n1]
   by_cases hz : (μ1.O i).gen = 0
   ·right; refine ⟨by omega, ?_, rfl⟩
    rw [hφ]; exact hrow ⟨i, r, none⟩ (hw _ (by simp)) rfl hz
   ·left; omega
  have htk : Took Y μf μ1 r i (μ1.φ i) { O r with gen := (O r).gen + (μ1.O i).gen, es := some es } :=
   took_whole h1 (by rw [o4]; simp only [VRel] at hv; obtain ⟨_, _, _, _, _, hh⟩ := hv; exact (hh hgen).1) o1 o3 o5 rfl (by simp only [n1, hOr]; exact o4.symm) hgen'
  have ht' := ht.take (U' := fun j => j < i + 1 ∧ S j) (by simp) (fun j hj => ⟨by omega, hj.2⟩) ⟨by simp, hS ⟨i, r, none⟩ (hw _ (by simp))⟩ htk
  have hm : GMono φ O (upd φ r (μ1.φ i)) (upd O r { O r with gen := (O r).gen + (μ1.O i).gen, es := some es }) := by
   refine GMono.upd ?_
   rw [n2]
   have := hgen'
   rw [← n1] at this
   exact this.imp id fun hh => ⟨hh.1, hh.2.1, hh.2.2⟩
  simp only [List.map_cons, distinct, Bool.and_eq_true, Bool.not_eq_true', List.contains_eq_mem, decide_eq_false_iff_not] at hd
  obtain ⟨A', φ', O', gs, k1, k2, k3, k4, k5, k6⟩ := ih o2 ht' (fun w hw' => hw w (by simp [hw'])) (fun w hw' => by
   have : w.r ≠ r := fun e => hd.1 (List.mem_map.2 ⟨w, hw', e⟩)
   rw [upd_ne _ _ this]; exact hA w (by simp [hw'])) hd.2 hrun
  refine ⟨A', φ', O', _, k1, ?_, hm.trans k3, fun w hw' => ?_, fun r' hr' => k5 r' ?_, fun x hx => ?_⟩
  ·have e : i + (V.msl (μ.O r).sz es0 off len :: as).length = i + 1 + as.length := by simp; omega
   rw [e]; exact k2
  ·rcases List.mem_cons.1 hw' with rfl | hw'
   ·exact k5 r (by simp [upd_same])
   ·exact k4 w hw'
  ·by_cases e : r' = r
   ·subst e; simp [upd_same]
   ·rw [upd_ne _ _ e]; exact hr'
  ·rcases List.mem_cons.1 hx with rfl | hx
   ·refine RefOk.mono ⟨?_, fun _ => ?_⟩ k3
    ·simp [upd_same]
    ·simp only [upd_same]; exact ⟨trivial, by rw [n1, hOr]; exact o4.symm⟩
   ·exact k6 x hx
 | @ptr i r g idx off es0 v rs as vs ws hes hfz hgen hpu hv h ih =>
  intro outs A φ O k p ho ht hw hA hd hrun
  obtain ⟨es, outs', o1, o2, o3, o4, o5, rfl⟩ := outs_cons_ptr ho
  simp only [putOuts, Act.run] at hrun
  have hAr := hA ⟨i, r, none⟩ (by simp)
  simp only at hAr
  obtain ⟨n1, n2⟩ := ht.non r hAr
  have hOr : μf.O r = μ.O r := hOf ⟨i, r, none⟩ (hw _ (by simp))
  have hgen' : (μf.O r).gen < (O r).gen + (μ1.O i).gen ∨ ((O r).gen + (μ1.O i).gen = (μf.O r).gen ∧ μ1.φ i = μf.φ r ∧ (O r).sz = (μf.O r).sz) := by
   rw [n1]
   by_cases hz : (μ1.O i).gen = 0
   ·right; refine ⟨by omega, ?_, rfl⟩
    rw [hφ]; exact hrow ⟨i, r, none⟩ (hw _ (by simp)) rfl hz
   ·left; omega
  have htk : Took Y μf μ1 r i (μ1.φ i) { O r with gen := (O r).gen + (μ1.O i).gen, es := some es } :=
   took_whole h1 (by rw [o4]; simp only [VRel] at hv; obtain ⟨_, _, _, hh⟩ := hv; exact (hh hgen).1) o1 o3 o5 rfl (by simp only [n1, hOr]; exact o4.symm) hgen'
  have ht' := ht.take (U' := fun j => j < i + 1 ∧ S j) (by simp) (fun j hj => ⟨by omega, hj.2⟩) ⟨by simp, hS ⟨i, r, none⟩ (hw _ (by simp))⟩ htk
  have hm : GMono φ O (upd φ r (μ1.φ i)) (upd O r { O r with gen := (O r).gen + (μ1.O i).gen, es := some es }) := by
   refine GMono.upd ?_
   rw [n2]
   have := hgen'
   rw [← n1] at this
   exact this.imp id fun hh => ⟨hh.1, hh.2.1, hh.2.2⟩
  simp only [List.map_cons, distinct, Bool.and_eq_true, Bool.not_eq_true', List.contains_eq_mem, decide_eq_false_iff_not] at hd
  obtain ⟨A', φ', O', gs, k1, k2, k3, k4, k5, k6⟩ := ih o2 ht' (fun w hw' => hw w (by simp [hw'])) (fun w hw' => by
   have : w.r ≠ r := fun e => hd.1 (List.mem_map.2 ⟨w, hw', e⟩)
   rw [upd_ne _ _ this]; exact hA w (by simp [hw'])) hd.2 hrun
  refine ⟨A', φ', O', _, k1, ?_, hm.trans k3, fun w hw' => ?_, fun r' hr' => k5 r' ?_, fun x hx => ?_⟩
  ·have e : i + (V.mptr (μ.O r).sz es0 idx off :: as).length = i + 1 + as.length := by simp; omega
   rw [e]; exact k2
  ·rcases List.mem_cons.1 hw' with rfl | hw'
   ·exact k5 r (by simp [upd_same])
   ·exact k4 w hw'
  ·by_cases e : r' = r
   ·subst e; simp [upd_same]
   ·rw [upd_ne _ _ e]; exact hr'
  ·rcases List.mem_cons.1 hx with rfl | hx
   ·refine RefOk.mono ⟨?_, fun _ => ?_⟩ k3
    ·simp [upd_same]
    ·simp only [upd_same]; exact ⟨trivial, by rw [n1, hOr]; exact o4.symm⟩
   ·exact k6 x hx
 | @fresh i sz v rs as vs ws hsz hv h ih =>
  intro outs A φ O k p ho ht hw hA hd hrun
  obtain ⟨es, outs', o1, o2, o3, o4, o5, rfl⟩ := outs_cons_sl ho
  simp only [putOuts, Act.run] at hrun
  have hAr := hA ⟨i, r0 + i, some sz⟩ (by simp)
  simp only at hAr
  obtain ⟨n1, n2⟩ := ht.non (r0 + i) hAr
  have htk : Took Y μf μ1 (r0 + i) i (μ1.φ i) { gen := (O (r0 + i)).gen + 1, sz, arr := true, fz := false, es := some es } :=
   took_whole h1 (by rw [o4]; exact hsz) o1 o3 o5 rfl o4.symm (.inl (by simp only [n1]; omega))
  have ht' := ht.take (U' := fun j => j < i + 1 ∧ S j) (by simp) (fun j hj => ⟨by omega, hj.2⟩) ⟨by simp, hS ⟨i, r0 + i, some sz⟩ (hw _ (by simp))⟩ htk
  have hm : GMono φ O (upd φ (r0 + i) (μ1.φ i)) (upd O (r0 + i) { gen := (O (r0 + i)).gen + 1, sz, arr := true, fz := false, es := some es }) :=
   GMono.upd (.inl (by simp))
  simp only [List.map_cons, distinct, Bool.and_eq_true, Bool.not_eq_true', List.contains_eq_mem, decide_eq_false_iff_not] at hd
  obtain ⟨A', φ', O', gs, k1, k2, k3, k4, k5, k6⟩ := ih o2 ht' (fun w hw' => hw w (by simp [hw'])) (fun w hw' => by
   have : w.r ≠ r0 + i := fun e => hd.1 (List.mem_map.2 ⟨w, hw', e⟩)
   rw [upd_ne _ _ this]; exact hA w (by simp [hw'])) hd.2 hrun
  refine ⟨A', φ', O', _, k1, ?_, hm.trans k3, fun w hw' => ?_, fun r' hr' => k5 r' ?_, fun x hx => ?_⟩
  ·have e : i + (V.msl sz [] 0 0 :: as).length = i + 1 + as.length := by simp; omega
   rw [e]; exact k2
  ·rcases List.mem_cons.1 hw' with rfl | hw'
   ·exact k5 (r0 + i) (by simp [upd_same])
   ·exact k4 w hw'
  ·by_cases e : r' = r0 + i
   ·subst e; simp [upd_same]
   ·rw [upd_ne _ _ e]; exact hr'
  ·rcases List.mem_cons.1 hx with rfl | hx
   ·refine RefOk.mono ⟨?_, fun _ => ?_⟩ k3
    ·simp [upd_same]
    ·simp only [upd_same]; exact ⟨trivial, o4.symm⟩
   ·exact k6 x hx
theorem outs_mem {O : Nat → Obj} {i : Nat} {as : List V} {vs : List Value} {rs : List Nat} {ws : List WRef} (hp : Prep X μ r0 i as vs rs ws) : ∀ {outs : List (Nat × List V)}, outsOf O i as = some outs →
  ∀ w ∈ ws, ∃ g es, (O w.i).es = some es ∧ (g, es) ∈ outs := by
 induction hp with
 | nil i => intro outs _ w hw; simp at hw
 | plain hpu hs h ih => intro outs ho; rw [outs_cons_pure hpu] at ho; exact ih ho
 | @sl i r g off len es0 v rs as vs ws hes hfz hgen hpu hfit hv h ih =>
  intro outs ho w hw
  obtain ⟨es, outs', o1, o2, o3, o4, o5, rfl⟩ := outs_cons_sl ho
  rcases List.mem_cons.1 hw with rfl | hw
  ·exact ⟨_, es, o1, List.mem_cons_self⟩
  ·obtain ⟨g, es', k1, k2⟩ := ih o2 w hw; exact ⟨g, es', k1, by simp [k2]⟩
 | @ptr i r g idx off es0 v rs as vs ws hes hfz hgen hpu hv h ih =>
  intro outs ho w hw
  obtain ⟨es, outs', o1, o2, o3, o4, o5, rfl⟩ := outs_cons_ptr ho
  rcases List.mem_cons.1 hw with rfl | hw
  ·exact ⟨_, es, o1, List.mem_cons_self⟩
  ·obtain ⟨g, es', k1, k2⟩ := ih o2 w hw; exact ⟨g, es', k1, by simp [k2]⟩
 | @fresh i sz v rs as vs ws hsz hv h ih =>
  intro outs ho w hw
  obtain ⟨es, outs', o1, o2, o3, o4, o5, rfl⟩ := outs_cons_sl ho
  rcases List.mem_cons.1 hw with rfl | hw
  ·exact ⟨_, es, o1, List.mem_cons_self⟩
  ·obtain ⟨g, es', k1, k2⟩ := ih o2 w hw; exact ⟨g, es', k1, by simp [k2]⟩
end
end Go.AM
namespace Go.AM
open Go Go.RowKit
def after (Y : Ctx) (μ1 : Mu) (n : Nat) (thaw : Bool) (b : Nat) : Prop :=
 Y.ban b ∨ ∃ j, (thaw = true ∨ j < n) ∧ (μ1.O j).es.isSome = true ∧ (μ1.O j).fz = false ∧ (μ1.φ j).cap ≠ 0 ∧ (μ1.φ j).blk = b
def quiet (μ1 : Mu) (φ : Nat → Row) (O : Nat → Obj) : Mu := ⟨μ1.w, φ, fun r => { O r with fz := true }⟩
theorem quiet_own {μ1 : Mu} {φ : Nat → Row} {O : Nat → Obj} {b : Nat} : ¬ (quiet μ1 φ O).own b := by
 rintro ⟨r, _, h, _⟩; simp [quiet] at h
theorem quiet_le {μ1 : Mu} {φ φ' : Nat → Row} {O O' : Nat → Obj} (h : GMono φ O φ' O') : Le (quiet μ1 φ O) (quiet μ1 φ' O') :=
 ⟨Nat.le_refl _, fun _ _ _ => ⟨rfl, quiet_own⟩, fun r => (h r).1, fun r e => (h r).2 e, rfl, rfl, rfl, fun _ _ => rfl, fun a ha => frozen_out (w := μ1.w) ha⟩
theorem distinct_append : ∀ {as bs : List Nat}, distinct (as ++ bs) = true → distinct as = true ∧ distinct bs = true ∧ ∀ b ∈ bs, b ∉ as
 | [], bs, h => ⟨rfl, h, fun _ _ => by simp⟩
 | a :: as, bs, h => by
  simp only [List.cons_append, distinct, Bool.and_eq_true, Bool.not_eq_true', List.contains_eq_mem, decide_eq_false_iff_not, List.mem_append, not_or] at h ⊢
  obtain ⟨h1, h2⟩ := h
  obtain ⟨k1, k2, k3⟩ := distinct_append h2
  refine ⟨⟨h1.1, k1⟩, k2, fun b hb => ?_⟩
  simp only [List.mem_cons, not_or]
  exact ⟨fun e => h1.2 (e ▸ hb), k3 b hb⟩
theorem lookRef_mem {i r g : Nat} : ∀ {gs : List (Nat × Nat × Nat)}, lookRef i gs = some (r, g) → (i, r, g) ∈ gs
 | [], h => by simp [lookRef] at h
 | (j, r', g') :: gs, h => by
  simp only [lookRef] at h
  split at h
  ·rename_i e
   subst e
   simp only [Option.some.injEq, Prod.mk.injEq] at h
   simp [h.1, h.2]
  ·exact List.mem_cons_of_mem _ (lookRef_mem h)
theorem areScalar_take : ∀ {es : List V} (n : Nat), V.areScalar es = true → V.areScalar (es.take n) = true
 | _, 0, _ => by simp [V.areScalar]
 | [], _ + 1, _ => by simp [V.areScalar]
 | x :: xs, n + 1, h => by
  simp only [V.areScalar, Bool.and_eq_true] at h
  simp only [List.take_succ_cons, V.areScalar, Bool.and_eq_true]
  exact ⟨h.1, areScalar_take n h.2⟩
theorem areScalar_drop : ∀ {es : List V} (n : Nat), V.areScalar es = true → V.areScalar (es.drop n) = true
 | _, 0, h => by simpa using h
 | [], _ + 1, _ => by simp [V.areScalar]
 | x :: xs, n + 1, h => by
  simp only [V.areScalar, Bool.and_eq_true] at h
  simpa using areScalar_drop n h.2
theorem areScalar_window {es : List V} {off len : Nat} (h : V.areScalar es = true) : V.areScalar (window es off len) = true := areScalar_take _ (areScalar_drop _ h)
section
variable {Y : Ctx} {μf μ1 : Mu} {n : Nat} {thaw : Bool} {C : Oracle} {T : Nat → V}
theorem after_sub {φ : Nat → Row} {O : Nat → Obj} {b : Nat} (h : Own ⟨Y.toTrEnv, after Y μ1 n thaw⟩ (quiet μ1 φ O) b) : Own Y μ1 b := by
 rcases h with h | h | ⟨j, _, h1, h2, h3, h4⟩
 ·exact absurd h quiet_own
 ·exact .inr h
 ·exact .inl ⟨j, h1, h2, h3, h4⟩
theorem importCell_sound (h1 : Objs Y μ1) {U : Nat → Prop} {A : Nat → Option Nat} {φ : Nat → Row} {O : Nat → Obj} {gs : List (Nat × Nat × Nat)} {c : V} {rs : List Nat} {val : Value} {r : Nat} {k : V → Act} {p : V × St}
  (ht : Taken Y μf μ1 U A φ O) (hlo : ∀ r, (μf.O r).gen ≤ (O r).gen) (hgs : ∀ x ∈ gs, RefOk μ1 φ O x.1 x.2.1 x.2.2) (he : Exp Y μ1 n c rs val) (hU : ∀ j ∈ rs, n ≤ j → ¬ U j) (hrun : (importCell thaw r gs c k).run C ⟨T, O⟩ = some p) :
  ∃ A' φ' O' c', (k c').run C ⟨T, O'⟩ = some p ∧ Taken Y μf μ1 (fun j => U j ∨ (thaw = true ∧ j ∈ rs)) A' φ' O' ∧ GMono φ O φ' O' ∧ (∀ r, A r ≠ none → A' r ≠ none) ∧
   VRel ⟨Y.toTrEnv, after Y μ1 n thaw⟩ (quiet μ1 φ' O') c' val ∧ (c.cellish = true → c'.isCell = true) := by
 have htk : Taken Y μf μ1 (fun j => U j ∨ (thaw = true ∧ j ∈ rs)) A φ O := ⟨ht.non, fun r j e => ⟨(ht.som r j e).1, .inl (ht.som r j e).2⟩, ht.inj⟩
 cases he with
 | pure hp hv =>
  refine ⟨A, φ, O, c, ?_, htk, GMono.refl _ _, fun _ h => h, pure_transfer (X := Y) (μ := μ1) (μ' := quiet μ1 φ O) rfl (fun b => after_sub) hp hv, fun hc => ?_⟩
  ·cases c <;> simp [V.isPure] at hp <;> simpa [importCell, V.isPure, hp] using hrun
  ·cases c <;> simp_all [V.isPure, V.cellish]
 | @sl j g off len es val hr hes hg hl hv =>
  simp only [importCell] at hrun
  split at hrun
  ·rename_i r' g' hlk
   obtain ⟨g1, g2⟩ := hgs _ (lookRef_mem hlk)
   refine ⟨A, φ, O, _, hrun, htk, GMono.refl _ _, fun _ h => h, ?_, fun _ => rfl⟩
   simp only [VRel] at hv ⊢
   obtain ⟨a, cap, rfl, q1, q2, q3⟩ := hv
   refine ⟨a, cap, rfl, q1, g1, fun e => ?_⟩
   obtain ⟨e1, e2⟩ := g2 e
   simp only [quiet] at e1 e2 ⊢
   rw [e1, e2]; exact q3 hg
  ·exact absurd hrun run_fail
 | @own j g off len es val hr hes hfz hg hl hp hv =>
  simp only [importCell] at hrun
  have a0 : 0 < (μ1.O j).sz := by simp only [VRel] at hv; obtain ⟨_, _, _, _, _, hh⟩ := hv; exact (hh hg).1
  obtain ⟨q1, q2, q3, q4⟩ := h1.row j es hes a0
  have hwl : (window es off len).length = len := by simp [window]; omega
  have hwb : (window es off len).all (isBlank · (μ1.O j).sz) = true := by
   simp only [List.all_eq_true] at q3 ⊢
   exact fun x hx => q3 x (List.mem_of_mem_drop (List.mem_of_mem_take hx))
  have hlies : (window es off len).all V.lies = true := by
   simp only [List.all_eq_true] at hwb ⊢
   exact fun x hx => (isBlank_lies (hwb x hx)).1
  simp only [VRel] at hv
  obtain ⟨a, cap, rfl, s1, s2, s3⟩ := hv
  obtain ⟨-, a1, a2⟩ := s3 hg
  cases hth : thaw with
  | true =>
   subst hth
   rw [if_pos rfl] at hrun
   simp only [Act.run] at hrun
   have hrow : (⟨(μ1.φ j).blk, (μ1.φ j).base + off * (μ1.O j).sz, cap⟩ : Row).cap = cap := rfl
   have htook : Took Y μf μ1 r j ⟨(μ1.φ j).blk, (μ1.φ j).base + off * (μ1.O j).sz, cap⟩ { gen := (O r).gen + 1, sz := (μ1.O j).sz, arr := true, fz := false, es := some (window es off len) } := by
    refine ⟨⟨_, rfl, hp, q1, by simp only [hwl]; exact s1, hwb, ?_⟩, ⟨by simp [hes], hfz⟩, fun hc => ⟨?_, rfl⟩, .inl ?_, fun hs es' he => ?_⟩
    ·rcases q4 with q4 | ⟨cc, TT, vs, p1, p2, p3, p4⟩
     ·left; simp only; omega
     ·right
      refine ⟨cc, TT, (vs.drop off).take len, p1, ?_, VRels.take _ (VRels.drop _ p3), (p4.drop off).take len⟩
      simp only
      rw [← a1, Nat.add_mul] at p2
      omega
    ·simp only at hc; omega
    ·have := hlo r; simp only; omega
    ·simp only at he; injection he with he; subst he
     exact areScalar_window (hs es hes)
   have hm : GMono φ O (upd φ r ⟨(μ1.φ j).blk, (μ1.φ j).base + off * (μ1.O j).sz, cap⟩) (upd O r { gen := (O r).gen + 1, sz := (μ1.O j).sz, arr := true, fz := false, es := some (window es off len) }) :=
    GMono.upd (.inl (by simp))
   refine ⟨_, _, _, _, hrun, ht.take (U' := fun i => U i ∨ (True ∧ i ∈ [j])) (hU j (by simp) hr) (fun i hi => .inl hi) (by simp) htook |> fun t => by simpa using t, hm, fun r' hr' => ?_, ?_, fun _ => rfl⟩
   ·by_cases e : r' = r
    ·subst e; simp [upd_same]
    ·rw [upd_ne _ _ e]; exact hr'
   ·simp only [VRel, quiet, upd_same]
    refine ⟨a, cap, by rw [hwl], by rw [hwl]; exact s1, Nat.le_refl _, fun _ => ⟨a0, by omega, a2.imp id fun e => ?_⟩⟩
    rw [e]; simp
  | false =>
   subst hth
   rw [if_neg (by simp)] at hrun
   refine ⟨A, φ, O, _, hrun, htk, GMono.refl _ _, fun _ h => h, ?_, fun _ => rfl⟩
   simp only [VRel]
   by_cases hl0 : len = 0
   ·exact ⟨hp, hlies, a, cap, [], by rw [hwl], by omega, by simp [window, hl0, VRels], .inl (by simpa using hwl.trans hl0)⟩
   ·rcases q4 with q4 | ⟨cc, TT, vs, p1, p2, p3, p4⟩
    ·omega
    ·refine ⟨hp, hlies, a, cap, (vs.drop off).take len, by rw [hwl], by omega, pures_transfer (X := Y) (μ := μ1) (μ' := quiet μ1 φ O) rfl (fun b => after_sub) hp (VRels.take _ (VRels.drop _ p3)),
      .inr ⟨_, _, a2.resolve_left (by omega), ?_, (Array.getElem?_eq_some_iff.1 p1).1, (p4.drop off).take len⟩⟩
     rintro (h | h | ⟨j', k0, k1, k2, k3, k4⟩)
     ·exact quiet_own h
     ·exact h1.nob j (by simp [hes]) (by omega) h
     ·have k0' : j' < n := by simpa using k0
      exact h1.inj j' j (by omega) k1 (by simp [hes]) k3 (by omega) k4
theorem Taken.lo {U : Nat → Prop} {A : Nat → Option Nat} {φ : Nat → Row} {O : Nat → Obj} (h : Taken Y μf μ1 U A φ O) (r : Nat) : (μf.O r).gen ≤ (O r).gen := by
 cases e : A r with
 | none => rw [(h.non r e).1]; exact Nat.le_refl _
 | some j =>
  rcases (h.som r j e).1.gen with h | ⟨h, _⟩ <;> omega
def Brought (Y : Ctx) (μf μ1 : Mu) (C : Oracle) (T : Nat → V) (U : Nat → Prop) (A : Nat → Option Nat) (φ : Nat → Row) (O : Nat → Obj) {α : Type} (k : α → Act) (p : V × St) (G : (Nat → Row) → (Nat → Obj) → α → Prop) : Prop :=
 ∃ A' φ' O' c', (k c').run C ⟨T, O'⟩ = some p ∧ Taken Y μf μ1 U A' φ' O' ∧ GMono φ O φ' O' ∧ (∀ r, A r ≠ none → A' r ≠ none) ∧ G φ' O' c'
theorem Taken.more {U U' : Nat → Prop} {A : Nat → Option Nat} {φ : Nat → Row} {O : Nat → Obj} (h : Taken Y μf μ1 U A φ O) (hU : ∀ j, U j → U' j) : Taken Y μf μ1 U' A φ O :=
 ⟨h.non, fun r j e => ⟨(h.som r j e).1, hU _ (h.som r j e).2⟩, h.inj⟩
theorem importCells_sound (h1 : Objs Y μ1) : ∀ {U : Nat → Prop} {A : Nat → Option Nat} {φ : Nat → Row} {O : Nat → Obj} {gs : List (Nat × Nat × Nat)} {cs : List V} {rs : List Nat} {vals : List Value} {r : Nat} {k : List V → Act} {p : V × St},
  Taken Y μf μ1 U A φ O → (∀ x ∈ gs, RefOk μ1 φ O x.1 x.2.1 x.2.2) → Exps Y μ1 n cs rs vals → (∀ j ∈ rs, n ≤ j → ¬ U j) → distinct rs = true → (importCells thaw r gs cs k).run C ⟨T, O⟩ = some p →
  Brought Y μf μ1 C T (fun j => U j ∨ (thaw = true ∧ j ∈ rs)) A φ O k p fun φ' O' cs' => VRels ⟨Y.toTrEnv, after Y μ1 n thaw⟩ (quiet μ1 φ' O') cs' vals ∧ (cs.all V.cellish = true → cs'.all V.isCell = true) := by
 intro U A φ O gs cs rs vals r k p ht hgs he hU hd hrun
 induction he generalizing U A φ O r k with
 | nil => exact ⟨A, φ, O, [], hrun, ht.more fun j h => .inl h, GMono.refl _ _, fun _ h => h, by simp [VRels], fun _ => rfl⟩
 | @cons c rs rs' val cs vals h hs ih =>
  obtain ⟨d1, d2, d3⟩ := distinct_append hd
  simp only [importCells] at hrun
  obtain ⟨A1, φ1, O1, c1, k1, k2, k3, k4, k5, k6⟩ := importCell_sound h1 ht ht.lo hgs h (fun j hj => hU j (by simp [hj])) hrun
  obtain ⟨A2, φ2, O2, cs2, m1, m2, m3, m4, m5, m6⟩ := ih k2 (fun x hx => (hgs x hx).mono k3) (fun j hj hn hu => by
   rcases hu with hu | ⟨_, hu⟩
   ·exact hU j (by simp [hj]) hn hu
   ·exact d3 j hj hu) d2 k1
  refine ⟨A2, φ2, O2, c1 :: cs2, m1, m2.more fun j hj => ?_, k3.trans m3, fun r' h => m4 r' (k4 r' h), ?_, ?_⟩
  ·rcases hj with (hj | ⟨e, hj⟩) | ⟨e, hj⟩
   ·exact .inl hj
   ·exact .inr ⟨e, by simp [hj]⟩
   ·exact .inr ⟨e, by simp [hj]⟩
  ·simp only [VRels]; exact ⟨VRel.mono (quiet_le m3) k5, m5⟩
  ·simp only [List.all_cons, Bool.and_eq_true]
   exact fun hc => ⟨k6 hc.1, m6 hc.2⟩
theorem cells_of_cellish : ∀ {cs : List V}, V.arePure cs = true → cs.all V.cellish = true → cs.all V.isCell = true
 | [], _, _ => rfl
 | a :: as, hp, hc => by
  simp only [V.arePure, Bool.and_eq_true] at hp
  simp only [List.all_cons, Bool.and_eq_true] at hc ⊢
  refine ⟨?_, cells_of_cellish hp.2 hc.2⟩
  have h1 := hp.1
  have h2 := hc.1
  cases a <;> simp_all [V.isPure, V.cellish]
theorem importV_sound (h1 : Objs Y μ1) {U : Nat → Prop} {A : Nat → Option Nat} {φ : Nat → Row} {O : Nat → Obj} {gs : List (Nat × Nat × Nat)} {c : V} {rs : List Nat} {val : Value} {r : Nat} {k : V → Act} {p : V × St}
  (ht : Taken Y μf μ1 U A φ O) (hgs : ∀ x ∈ gs, RefOk μ1 φ O x.1 x.2.1 x.2.2) (he : ExpV Y μ1 n c rs val) (hU : ∀ j ∈ rs, n ≤ j → ¬ U j) (hd : distinct rs = true) (hrun : (importV thaw r gs c k).run C ⟨T, O⟩ = some p) :
  Brought Y μf μ1 C T (fun j => U j ∨ (thaw = true ∧ j ∈ rs)) A φ O k p fun φ' O' c' => VRel ⟨Y.toTrEnv, after Y μ1 n thaw⟩ (quiet μ1 φ' O') c' val := by
 unfold importV at hrun
 split at hrun
 ·rename_i hp
  refine ⟨A, φ, O, c, hrun, ht.more fun j h => .inl h, GMono.refl _ _, fun _ h => h, ?_⟩
  cases he with
  | cell h =>
   cases h with
   | pure hp' hv => exact pure_transfer (X := Y) (μ := μ1) (μ' := quiet μ1 φ O) rfl (fun b => after_sub) hp hv
   | sl => simp [V.isPure] at hp
   | own => simp [V.isPure] at hp
  | @agg cs _ vals hc h =>
   have hp' : V.arePure cs = true := by simpa [V.isPure] using hp
   obtain ⟨hv, _⟩ := h.pures hp'
   simp only [VRel]
   exact ⟨cells_of_cellish hp' hc, _, rfl, pures_transfer (X := Y) (μ := μ1) (μ' := quiet μ1 φ O) rfl (fun b => after_sub) hp' hv⟩
 ·cases he with
  | cell h =>
   cases h with
   | pure hp hv => rename_i hnp; exact absurd hp hnp
   | sl hr hes hg hl hv =>
    obtain ⟨A1, φ1, O1, c1, k1, k2, k3, k4, k5, k6⟩ := importCell_sound h1 ht ht.lo hgs (.sl hr hes hg hl hv) hU hrun
    exact ⟨A1, φ1, O1, c1, k1, k2, k3, k4, k5⟩
   | own hr hes hfz hg hl hp hv =>
    obtain ⟨A1, φ1, O1, c1, k1, k2, k3, k4, k5, k6⟩ := importCell_sound h1 ht ht.lo hgs (.own hr hes hfz hg hl hp hv) hU hrun
    exact ⟨A1, φ1, O1, c1, k1, k2, k3, k4, k5⟩
  | agg hc h =>
   obtain ⟨A1, φ1, O1, c1, k1, k2, k3, k4, k5, k6⟩ := importCells_sound h1 ht hgs h hU hd hrun
   refine ⟨A1, φ1, O1, _, k1, k2, k3, k4, ?_⟩
   simp only [VRel]
   exact ⟨k6 hc, _, rfl, k5⟩
theorem importVs_sound (h1 : Objs Y μ1) : ∀ {U : Nat → Prop} {A : Nat → Option Nat} {φ : Nat → Row} {O : Nat → Obj} {gs : List (Nat × Nat × Nat)} {cs : List V} {rs : List Nat} {vals : List Value} {r : Nat} {k : List V → Act} {p : V × St},
  Taken Y μf μ1 U A φ O → (∀ x ∈ gs, RefOk μ1 φ O x.1 x.2.1 x.2.2) → ExpVs Y μ1 n cs rs vals → (∀ j ∈ rs, n ≤ j → ¬ U j) → distinct rs = true → (importVs thaw r gs cs k).run C ⟨T, O⟩ = some p →
  Brought Y μf μ1 C T (fun j => U j ∨ (thaw = true ∧ j ∈ rs)) A φ O k p fun φ' O' cs' => VRels ⟨Y.toTrEnv, after Y μ1 n thaw⟩ (quiet μ1 φ' O') cs' vals := by
 intro U A φ O gs cs rs vals r k p ht hgs he hU hd hrun
 induction he generalizing U A φ O r k with
 | nil => exact ⟨A, φ, O, [], hrun, ht.more fun j h => .inl h, GMono.refl _ _, fun _ h => h, by simp [VRels]⟩
 | @cons c rs rs' val cs vals h hs ih =>
  obtain ⟨d1, d2, d3⟩ := distinct_append hd
  simp only [importVs] at hrun
  obtain ⟨A1, φ1, O1, c1, k1, k2, k3, k4, k5⟩ := importV_sound h1 ht hgs h (fun j hj => hU j (by simp [hj])) d1 hrun
  obtain ⟨A2, φ2, O2, cs2, m1, m2, m3, m4, m5⟩ := ih k2 (fun x hx => (hgs x hx).mono k3) (fun j hj hn hu => by
   rcases hu with hu | ⟨_, hu⟩
   ·exact hU j (by simp [hj]) hn hu
   ·exact d3 j hj hu) d2 k1
  refine ⟨A2, φ2, O2, c1 :: cs2, m1, m2.more fun j hj => ?_, k3.trans m3, fun r' h => m4 r' (k4 r' h), ?_⟩
  ·rcases hj with (hj | ⟨e, hj⟩) | ⟨e, hj⟩
   ·exact .inl hj
   ·exact .inr ⟨e, by simp [hj]⟩
   ·exact .inr ⟨e, by simp [hj]⟩
  ·simp only [VRels]; exact ⟨VRel.mono (quiet_le m3) k5, m5⟩
theorem ExpVs.pures {cs : List V} {rs : List Nat} {vals : List Value} (h : ExpVs Y μ1 n cs rs vals) (hp : V.arePure cs = true) : VRels Y μ1 cs vals ∧ rs = [] := by
 induction h with
 | nil => simp [VRels]
 | cons h hs ih =>
  simp only [V.arePure, Bool.and_eq_true] at hp
  obtain ⟨i1, i2⟩ := ih hp.2
  cases h with
  | cell h =>
   cases h with
   | pure hp' hv => simp only [VRels]; exact ⟨⟨hv, i1⟩, by simpa using i2⟩
   | sl => simp [V.isPure] at hp
   | own => simp [V.isPure] at hp
  | @agg cs _ vals hc h =>
   have hp' : V.arePure cs = true := by simpa [V.isPure] using hp.1
   obtain ⟨hv, e⟩ := h.pures hp'
   subst e
   simp only [VRels, VRel]
   exact ⟨⟨⟨cells_of_cellish hp' hc, _, rfl, hv⟩, i1⟩, by simpa using i2⟩
end
end Go.AM
namespace Go.AM
open Go Go.RowKit
mutual
theorem isPure_of_isScalar : ∀ {x : V}, V.isScalar x = true → V.isPure x = true
 | .bool _, _ | .int .., _ | .float _, _ | .str _, _ | .nilp, _ | .nilfn, _ | .nili, _ | .nils, _ => rfl
 | .any, hp | .own .., hp | .msl .., hp | .mptr .., hp | .sl .., hp | .ptr .., hp | .lit .., hp | .eptr .., hp | .mp .., hp | .it .., hp | .mlit .., hp | .fn .., hp | .iface .., hp => by simp [V.isScalar] at hp
 | .agg cs, hp => by simpa [V.isPure] using arePure_of_areScalar (by simpa [V.isScalar] using hp)
 | .tuple cs, hp => by simpa [V.isPure] using arePure_of_areScalar (by simpa [V.isScalar] using hp)
theorem arePure_of_areScalar : ∀ {xs : List V}, V.areScalar xs = true → V.arePure xs = true
 | [], _ => rfl
 | x :: xs, hp => by
  simp only [V.areScalar, Bool.and_eq_true] at hp
  simp only [V.arePure, Bool.and_eq_true]
  exact ⟨isPure_of_isScalar hp.1, arePure_of_areScalar hp.2⟩
end
section
variable {Y : Ctx} {μf μ1 : Mu} {n : Nat} {thaw : Bool} {C : Oracle} {T : Nat → V}
def ExpR (Y : Ctx) (μ : Mu) (n : Nat) (v : V) (rs : List Nat) (val : Value) : Prop :=
 ExpV Y μ n v rs val ∨ ∃ vs us, v = .tuple vs ∧ val = .tuple us ∧ ExpVs Y μ n vs rs us.toList
theorem Exported.expR (h1 : Objs Y μ1) {T' : Nat → V} {v0 v : V} {rs : List Nat} {val : Value} (hv : VRel Y μ1 v0 val) (h : Exported n ⟨T', μ1.O⟩ v0 v rs) : ExpR Y μ1 n v rs val := by
 cases h with
 | one h => exact .inl (exportV_sound h1 hv h)
 | many h =>
  simp only [VRel] at hv
  obtain ⟨us, rfl, hv⟩ := hv
  exact .inr ⟨_, us, rfl, rfl, exportVs_sound h1 hv h⟩
theorem ExpR.pure {v : V} {rs : List Nat} {val : Value} (h : ExpR Y μ1 n v rs val) (hp : V.isPure v = true) : VRel Y μ1 v val := by
 rcases h with h | ⟨vs, us, rfl, rfl, h⟩
 ·have hs : ExpVs Y μ1 n [v] (rs ++ []) [val] := .cons h .nil
  have := (hs.pures (by simp [V.arePure, hp])).1
  simp only [VRels] at this
  exact this.1
 ·simp only [VRel]
  exact ⟨us, rfl, (h.pures (by simpa [V.isPure] using hp)).1⟩
theorem importRes_sound (h1 : Objs Y μ1) {U : Nat → Prop} {A : Nat → Option Nat} {φ : Nat → Row} {O : Nat → Obj} {gs : List (Nat × Nat × Nat)} {c v : V} {rs : List Nat} {val : Value} {r : Nat} {σ' : St}
  (ht : Taken Y μf μ1 U A φ O) (hgs : ∀ x ∈ gs, RefOk μ1 φ O x.1 x.2.1 x.2.2) (he : ExpR Y μ1 n c rs val) (hU : ∀ j ∈ rs, n ≤ j → ¬ U j) (hd : distinct rs = true) (hrun : (importRes thaw r gs c .done).run C ⟨T, O⟩ = some (v, σ')) :
  σ'.T = T ∧ ((V.isPure c = true ∧ v = c ∧ σ'.O = O ∧ VRel Y μ1 c val) ∨ ∃ A' φ', Taken Y μf μ1 (fun j => U j ∨ (thaw = true ∧ j ∈ rs)) A' φ' σ'.O ∧ GMono φ O φ' σ'.O ∧ (∀ r, A r ≠ none → A' r ≠ none) ∧ VRel ⟨Y.toTrEnv, after Y μ1 n thaw⟩ (quiet μ1 φ' σ'.O) v val) := by
 unfold importRes at hrun
 split at hrun
 ·rename_i hp
  obtain ⟨rfl, rfl⟩ := run_done hrun
  exact ⟨rfl, .inl ⟨hp, rfl, rfl, he.pure hp⟩⟩
 ·rename_i hnp
  split at hrun
  ·rename_i vs
   rcases he with he | ⟨vs', us, e, rfl, he⟩
   ·cases he with
    | cell h =>
     cases h with
     | pure hp hv => exact absurd hp hnp
   ·injection e with e; subst e
    obtain ⟨A1, φ1, O1, c1, k1, k2, k3, k4, k5⟩ := importVs_sound h1 ht hgs he hU hd hrun
    obtain ⟨rfl, rfl⟩ := run_done k1
    refine ⟨rfl, .inr ⟨A1, φ1, k2, k3, k4, ?_⟩⟩
    simp only [VRel]
    exact ⟨us, rfl, k5⟩
  ·rename_i hnt
   rcases he with he | ⟨vs', us, e, rfl, he⟩
   ·obtain ⟨A1, φ1, O1, c1, k1, k2, k3, k4, k5⟩ := importV_sound h1 ht hgs he hU hd hrun
    obtain ⟨rfl, rfl⟩ := run_done k1
    exact ⟨rfl, .inr ⟨A1, φ1, k2, k3, k4, k5⟩⟩
   ·exact absurd e (hnt vs')
end
section
variable {X : Ctx} {μ μ1 : Mu} {r0 : Nat}
theorem back_view {as : List V} {vals : List Value} {rs : List Nat} {ws : List WRef} (ho : Objs X μ) (hp : Prep X μ r0 0 as vals rs ws)
  (le : Le ⟨μ.w, rowIn μ.φ ws, (enter as).O⟩ μ1) (h1 : Objs ⟨X.toTrEnv, banned X μ rs ws⟩ μ1) {Of : Nat → Obj} (hf : Objs X ⟨μ.w, μ.φ, Of⟩) (hOf : ∀ w ∈ ws, Of w.r = μ.O w.r)
  {U : Nat → Prop} {A : Nat → Option Nat} {φ : Nat → Row} {O : Nat → Obj} (ht : Taken ⟨X.toTrEnv, banned X μ rs ws⟩ ⟨μ.w, μ.φ, Of⟩ μ1 U A φ O) (hm : GMono μ.φ Of φ O) (hA : ∀ w ∈ ws, A w.r ≠ none)
  (hT : ∀ j, U j → ((∀ es, (μ1.O j).es = some es → V.areScalar es = true)) ∨ ∀ b, Own X ⟨μ1.w, φ, O⟩ b → Own ⟨X.toTrEnv, banned X μ rs ws⟩ μ1 b) :
  Le ⟨μ.w, μ.φ, Of⟩ ⟨μ1.w, φ, O⟩ ∧ Objs X ⟨μ1.w, φ, O⟩ := by
 have hown0 : ∀ b, (⟨μ.w, rowIn μ.φ ws, (enter as).O⟩ : Mu).own b → ∃ w ∈ ws, (Of w.r).es.isSome = true ∧ (Of w.r).fz = false ∧ (μ.φ w.r).cap ≠ 0 ∧ (μ.φ w.r).blk = b := fun b hb => by
  obtain ⟨i, r, k1, k2, k3, k4, k5⟩ := entry_own hp hb
  have e := hOf _ k1
  simp only at e
  exact ⟨_, k1, by rw [e]; exact k2, by rw [e]; exact k3, k4, k5⟩
 have own1 : ∀ j, (μ1.O j).es.isSome = true ∧ (μ1.O j).fz = false → (μ1.φ j).cap ≠ 0 → μ1.own (μ1.φ j).blk := fun j hl hc => ⟨j, hl.1, hl.2, hc, rfl⟩
 have kept : ∀ r, A r = none → (Of r).es.isSome = true → (μ.φ r).cap ≠ 0 → (μ.φ r).blk < μ.w.heap.size ∧ μ1.w.heap[(μ.φ r).blk]? = μ.w.heap[(μ.φ r).blk]? ∧ ¬ μ1.own (μ.φ r).blk := fun r hr hs hc => by
  obtain ⟨es, he⟩ := Option.isSome_iff_exists.1 hs
  have hlt : (μ.φ r).blk < μ.w.heap.size := ObjOk.blk (μ := ⟨μ.w, μ.φ, Of⟩) (hf.ok r es he) hc
  have hno : ¬ (⟨μ.w, rowIn μ.φ ws, (enter as).O⟩ : Mu).own (μ.φ r).blk := fun hb => by
   obtain ⟨w, k1, k2, k3, k4, k5⟩ := hown0 _ hb
   have hne : w.r ≠ r := fun e => hA w k1 (e ▸ hr)
   exact hf.inj w.r r hne k2 hs k4 hc k5
  obtain ⟨l1, l2⟩ := le.keep _ hlt hno
  exact ⟨hlt, l1, l2⟩
 have own3 : ∀ b, (⟨μ1.w, φ, O⟩ : Mu).own b → (⟨μ.w, μ.φ, Of⟩ : Mu).own b ∨ μ1.own b := fun b hb => by
  obtain ⟨r, k1, k2, k3, k4⟩ := hb
  simp only at k1 k2 k3 k4
  cases e : A r with
  | none =>
   obtain ⟨n1, n2⟩ := ht.non r e
   rw [n1] at k1 k2
   rw [n2] at k3 k4
   exact .inl ⟨r, k1, k2, k3, k4⟩
  | some j =>
   obtain ⟨t, _⟩ := ht.som r j e
   obtain ⟨b1, b2⟩ := t.blk k3
   exact .inr ⟨j, t.live.1, t.live.2, b1, by rw [← b2]; exact k4⟩
 have LE : Le ⟨μ.w, μ.φ, Of⟩ ⟨μ1.w, φ, O⟩ := by
  refine ⟨le.size, fun b hb hno => ?_, fun r => (hm r).1, fun r e => (hm r).2 e, le.os, le.output, le.tape, le.frozen, le.fresh⟩
  have hno' : ¬ (⟨μ.w, rowIn μ.φ ws, (enter as).O⟩ : Mu).own b := fun hb' => by
   obtain ⟨w, k1, k2, k3, k4, k5⟩ := hown0 _ hb'
   exact hno ⟨w.r, k2, k3, k4, k5⟩
  obtain ⟨l1, l2⟩ := le.keep b hb hno'
  exact ⟨l1, fun h3 => (own3 b h3).elim hno l2⟩
 refine ⟨LE, fun r es hes => ?_, fun r1 r2 hne e1 e2 e3 e4 e5 => ?_, fun r k1 k2 hb => ?_, fun b hb => Nat.lt_of_lt_of_le (ho.blt b hb) le.size⟩
 ·simp only at hes
  cases e : A r with
  | none =>
   obtain ⟨n1, n2⟩ := ht.non r e
   simp only at n1 n2
   rw [n1] at hes
   exact ObjOk.keep (r := r) (r' := r) LE (hf.ok r es hes) (by simp [n1]) (by simp [n2]) (fun hc => (kept r e (by simp [hes]) hc).2.1)
  | some j =>
   obtain ⟨t, hu⟩ := ht.som r j e
   obtain ⟨es', s0, s1, s2, s3, s4, s5⟩ := t.es
   rw [hes] at s0; injection s0 with s0; subst s0
   left
   unfold RowOk
   simp only
   refine ⟨s2, s3, s4, s5.imp id ?_⟩
   rintro ⟨c, TT, vs, p1, p2, p3, p4⟩
   refine ⟨c, TT, vs, p1, p2, ?_, p4⟩
   rcases hT j hu with hs | hs
   ·exact scalars_transfer (X := ⟨X.toTrEnv, banned X μ rs ws⟩) (μ := μ1) (X' := X) (μ' := ⟨μ1.w, φ, O⟩) rfl (t.sc hs _ hes) p3
   ·exact pures_transfer (X := ⟨X.toTrEnv, banned X μ rs ws⟩) (μ := μ1) (B := X.ban) (μ' := ⟨μ1.w, φ, O⟩) rfl hs s1 p3
 ·simp only at e1 e2 e3 e4 e5
  cases a1 : A r1 with
  | none =>
   obtain ⟨n1, n2⟩ := ht.non r1 a1
   simp only at n1 n2
   rw [n1] at e1; rw [n2] at e3 e5
   cases a2 : A r2 with
   | none =>
    obtain ⟨m1, m2⟩ := ht.non r2 a2
    simp only at m1 m2
    rw [m1] at e2; rw [m2] at e4 e5
    exact hf.inj r1 r2 hne e1 e2 e3 e4 e5
   | some j =>
    obtain ⟨t, _⟩ := ht.som r2 j a2
    obtain ⟨b1, b2⟩ := t.blk e4
    exact (kept r1 a1 e1 e3).2.2 (by rw [e5, b2]; exact own1 j t.live b1)
  | some j =>
   obtain ⟨t, _⟩ := ht.som r1 j a1
   obtain ⟨b1, b2⟩ := t.blk e3
   cases a2 : A r2 with
   | none =>
    obtain ⟨m1, m2⟩ := ht.non r2 a2
    simp only at m1 m2
    rw [m1] at e2; rw [m2] at e4 e5
    exact (kept r2 a2 e2 e4).2.2 (by rw [← e5, b2]; exact own1 j t.live b1)
   | some j2 =>
    obtain ⟨t2, _⟩ := ht.som r2 j2 a2
    obtain ⟨c1, c2⟩ := t2.blk e4
    refine h1.inj j j2 (fun e => hne (ht.inj r1 r2 j a1 (e ▸ a2))) t.live.1 t2.live.1 b1 c1 ?_
    rw [← b2, ← c2]; exact e5
 ·simp only at k1 k2 hb
  cases a1 : A r with
  | none =>
   obtain ⟨n1, n2⟩ := ht.non r a1
   simp only at n1 n2
   rw [n1] at k1; rw [n2] at k2 hb
   exact hf.nob r k1 k2 hb
  | some j =>
   obtain ⟨t, _⟩ := ht.som r j a1
   obtain ⟨b1, b2⟩ := t.blk k2
   exact h1.nob j t.live.1 b1 (.inl (b2 ▸ hb))
end
end Go.AM
