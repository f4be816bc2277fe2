/-
  Operations of the abstract machine against the model's: copy, clear. Own work.
-/
import Derived.Test.YtnjbmkcbhnkggaaAmOps8
set_option linter.unusedSimpArgs false
namespace Go.AM
open Go Go.RowKit

section
variable {X : Ctx} {E : Env} {C : Oracle} {o : Oper} {a : Go.Act} {T : Nat → V} {μ : Mu} {v : V} {σ' : St}

/-- elements are written over others -/
theorem write_elems (ho : Objs X μ) {r g off len sz : Nat} {es ys : List V} {us : List Value} {p : Option Addr} {cap : Nat} (hes : (μ.O r).es = some es) (hfz : (μ.O r).fz = false) (hosz : (μ.O r).sz = sz)
    (hgen : (μ.O r).gen = g) (hle : len ≤ cap) (a1 : cap + off = (μ.φ r).cap) (a2 : cap = 0 ∨ p = some ⟨(μ.φ r).blk, (μ.φ r).base + off * (μ.O r).sz, none⟩)
    (hfit : off + len ≤ es.length) (hy : ys.length ≤ len) (hrel : VRels X μ ys us) (hbl : ys.all (isBlank · sz) = true) :
    ∃ w', (match p with | some q => (storeCells q (flat us)).run X.P μ.w = .ok () w' | none => w' = μ.w ∧ flat us = []) ∧
      ∃ φ', φ' r = μ.φ r ∧ Le μ ⟨w', φ', upd μ.O r { μ.O r with es := some (overwrite es off ys) }⟩ ∧ Objs X ⟨w', φ', upd μ.O r { μ.O r with es := some (overwrite es off ys) }⟩ := by
  have hul : us.length = ys.length := hrel.length.symm
  obtain ⟨hus, hone⟩ := hrel.cells_one hbl
  have hfl := flat_length hus
  have hobj : μ.O r = { μ.O r with es := some es } := by rw [← hes]
  rcases Nat.eq_zero_or_pos ys.length with h0 | h0
  · have hy0 : ys = [] := by simpa using h0
    have hu0 : us = [] := by have : us.length = 0 := by omega
                             simpa using this
    have hov : overwrite es off ys = es := by simp [overwrite, hy0]
    have hO : upd μ.O r { μ.O r with es := some (overwrite es off ys) } = μ.O := by
      funext q
      by_cases hq : q = r
      · subst hq; rw [upd_same, hov]; exact hobj.symm
      · rw [upd_ne _ _ hq]
    rw [hO]
    refine ⟨μ.w, ?_, μ.φ, rfl, Le.refl μ, ho⟩
    cases p with
    | none => simp [hu0, flat]
    | some q => simp [hu0, flat, storeCells]
  · obtain ⟨q1, q2, q3, q4⟩ := ho.ok r es hes
    have hcap : cap ≠ 0 := by omega
    have hc0 : (μ.φ r).cap ≠ 0 := by omega
    rcases q4 with q4 | ⟨cc, T0, vs, p1, p2, p3, p4⟩
    · exact absurd q4 hc0
    · have hpe := a2.resolve_left hcap
      subst hpe
      have hvl := p3.length
      have hsp : Spells cc.toList (μ.φ r).base sz vs := by have := spells_of_row p1 p4; rwa [hosz] at this
      rw [hosz] at p2
      have hmul : (off + ys.length) * sz ≤ (μ.φ r).cap * sz := Nat.mul_le_mul_right _ (by omega)
      rw [Nat.add_mul] at hmul
      have hw := hsp.write (k := off) (us := us) (by omega) hus (by rw [len_toList cc, hul]; omega)
      have hst := run_store_row (P := X.P) (w := μ.w) (q := (μ.φ r).base + off * sz) p1 (flat us) (by rw [hfl, hul]; omega) hone
      have hwo := write_obj (X := X) (μ := μ) ho r hes hfz p1 hc0 (c' := (splice cc.toList ((μ.φ r).base + off * sz) (flat us)).toArray)
        (by
          have : (splice cc.toList ((μ.φ r).base + off * sz) (flat us)).length = cc.toList.length := splice_length (by rw [len_toList cc, hfl, hul]; omega)
          simpa using this)
        (μ.O r).gen (μ.φ r).base (μ.φ r).cap (es' := overwrite es off ys) (vs' := vs.take off ++ us ++ vs.drop (off + us.length)) (.inl ⟨rfl, rfl, rfl⟩) hc0
        (by simp [overwrite]; omega)
        (by
          simp only [hosz] at q3 ⊢
          have t1 := all_take (p := (isBlank · sz)) off q3
          have t2 := all_drop (p := (isBlank · sz)) (off + ys.length) q3
          simp only [overwrite, List.all_append, t1, hbl, t2, Bool.and_self])
        (by
          have := ((VRels.take off p3).append hrel).append (VRels.drop (off + ys.length) p3)
          rw [hul]; exact this)
        (by rw [hosz]; exact p2)
        (fun j y hy => by
          obtain ⟨m1, m2⟩ := hw j y hy
          refine ⟨by rw [hosz]; exact m1, fun l q hq => ?_⟩
          have := m2 l q hq
          simp only [hosz]
          simpa using this)
      refine ⟨_, ?_, _, ?_, hwo.1, hwo.2⟩
      · simp only [hosz]; exact hst
      · rw [upd_same]

theorem op_copy {c : Call} {d s : Operand} {dT sT e : TypeId} {d' s' : AOpd} {sz : Nat} (hr : Rel X T a μ) (ho : o.op = .call c) (hc : c.callee = .builtin .copy)
    (hargs : c.args = #[d, s]) (htys : c.argTypes = #[dT, sT]) (hd : descT X dT = some (.slice e)) (hn : sizeT X e = some sz) (h1 : trO X d = some d') (h2 : trO X s = some s')
    (hrun : (opAct E (.copy sz d' s')).run C ⟨T, μ.O⟩ = some (v, σ')) : σ'.T = T ∧ Done X o a μ σ'.O v := by
  simp only [opAct, run_ev] at hrun
  have hdd := trO_rel hr h1 μ.O
  have hss := trO_rel hr h2 μ.O
  have hd' : X.P.underlying dT = some (.slice e) := hd
  obtain ⟨ys, us, k1, k2, k3, k4⟩ := content_sound hr.objs hss hrun
  have fin : ∀ (p : Option Addr) (len cap : Nat) (w' : World), a.eval d = .slice p len cap →
      (match p with | some q => (storeCells q (flat (us.take (min ys.length len)))).run X.P μ.w = .ok () w' | none => w' = μ.w ∧ flat (us.take (min ys.length len)) = []) →
      (execOp a.eval o).run X.P μ.w = .ok (.value (goInt ((min ys.length len : Nat) : Int))) w' := fun p len cap w' hp hst => by
    refine run_builtin ho hc ?_
    simp only [builtin, hargs, htys]
    refine run_v ?_
    have hg0 : (#[dT, sT] : Array TypeId)[0]? = some dT := rfl
    have hmap : Array.map a.eval #[d, s] = #[a.eval d, a.eval s] := by simp
    rw [hmap, hp]
    have ha0 : (#[Value.slice p len cap, a.eval s] : Array Value)[0]? = some (Value.slice p len cap) := rfl
    have ha1 : (#[Value.slice p len cap, a.eval s] : Array Value)[1]? = some (a.eval s) := rfl
    have hfc := k4 μ.w rfl (min ys.length len) (Nat.min_le_left _ _)
    simp only [Builtin.copy_, hg0, ha0, ha1, Sem.run_bind, run_underlying hd', Result.andThen_ok, k3, run_sizeT hn, Nat.min_def] at hfc ⊢
    rw [hfc]
    simp only [Result.andThen_ok]
    simp only [Nat.min_def] at hst
    cases p with
    | none => simp only at hst; obtain ⟨rfl, _⟩ := hst; simp
    | some q => simp only at hst; simp [Sem.run_bind, hst]
  generalize evalOpd ⟨T, μ.O⟩ d' = dv at k1 hdd
  split at k1
  · obtain ⟨rfl, rfl⟩ := run_done k1
    simp only [VRel] at hdd
    obtain ⟨p, hp⟩ := hdd
    have h0 : min ys.length 0 = 0 := Nat.min_eq_right (Nat.zero_le _)
    have := fin p 0 0 μ.w hp (by rw [h0]; cases p <;> simp [flat, storeCells])
    rw [h0] at this
    exact ⟨rfl, done_pure (val := goInt 0) hr.objs (by simpa using this) (by simp [VRel, goInt])⟩
  · rename_i r g off len
    simp only [Act.run] at k1
    split at k1
    · rename_i es hes
      split at k1
      · rename_i hcc
        obtain ⟨hgen, harr, hfz, hosz, hfit, hbl⟩ := hcc
        simp only [Act.run, Option.some.injEq, Prod.mk.injEq] at k1
        obtain ⟨rfl, rfl⟩ := k1
        simp only [VRel] at hdd
        obtain ⟨p, cap, hp, hle, hge, haddr⟩ := hdd
        obtain ⟨a1, a2⟩ := haddr hgen
        obtain ⟨w', hst, φ', hφ, le, hobj⟩ := write_elems (X := X) hr.objs (us := us.take len) hes hfz hosz hgen hle a1 a2 hfit (ys := ys.take len) (by simp; omega) (VRels.take _ k2) hbl
        have hmin : us.take (min ys.length len) = us.take len := by
          have hl := k2.length
          rcases Nat.le_total ys.length len with h | h
          · rw [Nat.min_eq_left h, hl, List.take_length, List.take_of_length_le (by omega)]
          · rw [Nat.min_eq_right h]
        refine ⟨rfl, goInt ((min ys.length len : Nat) : Int), w', φ', .inl (fin p len cap w' hp (by rw [hmin]; exact hst)), ?_, le, hobj⟩
        simp only [VRel, goInt, List.length_take]
        rw [Nat.min_comm]
      · exact absurd k1 run_fail
    · exact absurd k1 run_fail
  · exact absurd k1 run_fail

theorem zeroCells_flat {zv : Value} {sz n : Nat} (hz : zv.cells.size = sz) (hsz : 0 < sz) : (Builtin.zeroCells zv.cells n).toList = flat (List.replicate n zv) := by
  have hs : ∀ u ∈ List.replicate n zv, u.cells.size = sz := fun u hu => by rw [(List.mem_replicate.1 hu).2]; exact hz
  have hfl := flat_length hs
  rw [List.length_replicate] at hfl
  apply List.ext_getElem?
  intro q
  by_cases hq : q < n * sz
  · have hi : q / sz < n := Nat.div_lt_of_lt_mul (by rw [Nat.mul_comm]; exact hq)
    have hpe : q / sz * sz + q % sz = q := by rw [Nat.mul_comm]; exact Nat.div_add_mod q sz
    have hm : q % sz < zv.cells.size := by rw [hz]; exact Nat.mod_lt _ hsz
    have hc : zv.cells[q % sz]? = some zv.cells[q % sz] := Array.getElem?_eq_getElem hm
    have hv : (List.replicate n zv)[q / sz]? = some zv := by rw [List.getElem?_replicate]; simp [hi]
    have g1 := flat_get hs hv hc
    rw [hpe] at g1
    rw [g1, Array.getElem?_toList]
    have hr : (Array.range (n * sz))[q]? = some q := by simp [hq]
    simp only [Builtin.zeroCells, Array.getElem?_map, hz, hr, Option.map_some]
    rw [getElem!_def, hc]
  · rw [List.getElem?_eq_none (by rw [len_toList (Builtin.zeroCells _ _), zeroCells_size hz]; omega), List.getElem?_eq_none (by omega)]

theorem op_clear {c : Call} {x : Operand} {t e : TypeId} {x' : AOpd} {sz : Nat} {z : V} (hr : Rel X T a μ) (ho : o.op = .call c) (hc : c.callee = .builtin .clear)
    (hargs : c.args = #[x]) (htys : c.argTypes = #[t]) (hd : descT X t = some (.slice e)) (hz : zeroT X e = some z) (h1 : trO X x = some x')
    (hrun : (opAct E (.clear sz z x')).run C ⟨T, μ.O⟩ = some (v, σ')) : σ'.T = T ∧ Done X o a μ σ'.O v := by
  simp only [opAct, run_ev] at hrun
  have hx := trO_rel hr h1 μ.O
  have hd' : X.P.underlying t = some (.slice e) := hd
  have fin : ∀ w', (Builtin.clear_ #[t] o.type #[a.eval x]).run X.P μ.w = .ok (.tuple #[]) w' → (execOp a.eval o).run X.P μ.w = .ok (.value (.tuple #[])) w' := fun w' hv => by
    refine run_builtin ho hc ?_
    simp only [builtin, hargs, htys]
    refine run_v ?_
    simpa using hv
  have hg0 : (#[t] : Array TypeId)[0]? = some t := rfl
  have ha0 : ∀ y : Value, (#[y] : Array Value)[0]? = some y := fun _ => rfl
  split at hrun
  · rename_i ex
    obtain ⟨rfl, rfl⟩ := run_done hrun
    rw [ex] at hx; simp only [VRel] at hx
    obtain ⟨p, hp⟩ := hx
    refine ⟨rfl, done_pure (val := .tuple #[]) hr.objs (fin _ ?_) (by simp only [VRel]; exact ⟨#[], rfl, by simp [VRels]⟩)⟩
    cases p <;> simp [Builtin.clear_, Sem.run_bind, run_underlying hd', hp]
  · rename_i r g off len ex
    rw [ex] at hx
    simp only [Act.run] at hrun
    split at hrun
    · rename_i es hes
      split at hrun
      · rename_i hcc
        obtain ⟨hgen, harr, hfz, hosz, hfit, hbz⟩ := hcc
        simp only [Act.run, Option.some.injEq, Prod.mk.injEq] at hrun
        obtain ⟨rfl, rfl⟩ := hrun
        simp only [VRel] at hx
        obtain ⟨p, cap, hp, hle, hge, haddr⟩ := hx
        obtain ⟨a1, a2⟩ := haddr hgen
        obtain ⟨zv, hz1, hz2⟩ := zero_run hz μ.w
        obtain ⟨hzr, hzl⟩ := constV_rel (X := X) (μ := μ) hz2
        have hzs : zv.cells.size = sz := by rw [hzr.cells_size hzl, (isBlank_lies hbz).2]
        have hsz : 0 < sz := hosz ▸ (hr.objs.ok r es hes).1
        obtain ⟨w', hst, φ', hφ, le, hobj⟩ := write_elems (X := X) hr.objs (us := List.replicate len zv) hes hfz hosz hgen hle a1 a2 hfit (ys := List.replicate len z) (by simp) (VRels.replicate hzr len)
          (by simp only [List.all_eq_true, List.mem_replicate]; rintro y ⟨_, rfl⟩; exact hbz)
        refine ⟨rfl, .tuple #[], w', φ', .inl (fin _ ?_), by simp only [VRel]; exact ⟨#[], rfl, by simp [VRels]⟩, le, hobj⟩
        rw [← zeroCells_flat hzs hsz] at hst
        rw [hp]
        simp only [Builtin.clear_, hg0, ha0, Sem.run_bind, run_underlying hd', Result.andThen_ok]
        rcases Nat.eq_zero_or_pos len with h0 | h0
        · subst h0
          have hz0 : (Builtin.zeroCells zv.cells 0).toList = [] := by rw [zeroCells_flat hzs hsz]; rfl
          rw [hz0] at hst
          have hw : w' = μ.w := by
            cases p with
            | none => exact hst.1
            | some q => simp [storeCells] at hst; exact hst.symm
          subst hw
          cases p <;> simp
        · cases p with
          | none => 
            have hcap : cap ≠ 0 := by omega
            exact absurd (a2.resolve_left hcap) (by simp)
          | some q =>
            obtain ⟨n, rfl⟩ : ∃ n, len = n + 1 := ⟨len - 1, by omega⟩
            simp only at hst
            simp [Sem.run_bind, hz1, hst]
      · exact absurd hrun run_fail
    · exact absurd hrun run_fail
  · exact absurd hrun run_fail

end
end Go.AM
