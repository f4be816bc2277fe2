/-
  Operations of the abstract machine against the model's: slicing, built values, type assertions. Own work.
-/
import Derived.Test.YtnjbmkcbhnkggaaAmOps3
set_option linter.unusedSimpArgs false
namespace Go.AM
open Go Go.RowKit

def ORel (X : Ctx) (μ : Mu) (x : Option V) (v : Option Value) : Prop := (x = none ∧ v = none) ∨ ∃ x' v', x = some x' ∧ v = some v' ∧ VRel X μ x' v'

theorem trOo_orel {X : Ctx} {μ : Mu} {T : Nat → V} {a : Go.Act} {x : Option Operand} {y : Option AOpd} (hr : Rel X T a μ) (h : trOo X x = some y) (O : Nat → Obj) :
    ORel X μ (y.map (evalOpd ⟨T, O⟩)) (x.map a.eval) := by
  rcases trOo_rel hr h O with ⟨rfl, rfl⟩ | ⟨x', y', rfl, rfl, hrel⟩
  · exact .inl ⟨rfl, rfl⟩
  · exact .inr ⟨_, _, rfl, rfl, hrel⟩

section
variable {X : Ctx} {E : Env} {C : Oracle} {o : Oper} {a : Go.Act} {T : Nat → V} {μ : Mu} {v : V} {σ' : St}

theorem run_sliceBound {d l y : Nat} {x : V} {xv : Value} {code : BoundsCode} {w : World} (h : VRel X μ x xv) (hb : boundOf d (some x) = some l) (hle : l ≤ y) :
    (Instr.sliceBound xv y code).run X.P w = .ok l w := by
  cases x <;> simp [boundOf] at hb
  obtain ⟨h0, rfl⟩ := hb
  simp only [VRel] at h
  subst h
  rename_i k n
  have : n ≤ (y : Int) := by omega
  simp [Instr.sliceBound, asIntOf, Sem.run_bind, h0, this]

theorem run_sliceBounds2 {isSlice : Bool} {len cap l h : Nat} {lo hi : Option V} {lov hiv : Option Value} {w : World} (h1 : ORel X μ lo lov) (h2 : ORel X μ hi hiv)
    (hl : boundOf 0 lo = some l) (hh : boundOf len hi = some h) (hlh : l ≤ h) (hcap : h ≤ cap) :
    (Instr.sliceBounds isSlice len cap lov hiv none).run X.P w = .ok (l, h, cap) w := by
  rcases h1 with ⟨rfl, rfl⟩ | ⟨lx, lv, rfl, rfl, hlr⟩ <;> rcases h2 with ⟨rfl, rfl⟩ | ⟨hx, hv, rfl, rfl, hhr⟩
  · simp [boundOf] at hl hh; subst hl; subst hh
    simp [Instr.sliceBounds, Sem.run_bind]
  · simp [boundOf] at hl; subst hl
    simp [Instr.sliceBounds, Sem.run_bind, run_sliceBound hhr hh hcap]
  · have hh' := hh
    simp [boundOf] at hh'; subst hh'
    simp [Instr.sliceBounds, Sem.run_bind, run_sliceBound hlr hl hlh]
  · simp [Instr.sliceBounds, Sem.run_bind, run_sliceBound hlr hl hlh, run_sliceBound hhr hh hcap]

theorem run_sliceBounds3 {isSlice : Bool} {len cap l h m : Nat} {lo : Option V} {hi mx : V} {lov : Option Value} {hiv mxv : Value} {w : World} (h1 : ORel X μ lo lov) (h2 : VRel X μ hi hiv) (h3 : VRel X μ mx mxv)
    (hl : boundOf 0 lo = some l) (hh : boundOf len (some hi) = some h) (hm : boundOf 0 (some mx) = some m) (hlh : l ≤ h) (hhm : h ≤ m) (hcap : m ≤ cap) :
    (Instr.sliceBounds isSlice len cap lov (some hiv) (some mxv)).run X.P w = .ok (l, h, m) w := by
  rcases h1 with ⟨rfl, rfl⟩ | ⟨lx, lv, rfl, rfl, hlr⟩
  · simp [boundOf] at hl; subst hl
    simp [Instr.sliceBounds, Sem.run_bind, run_sliceBound h3 hm hcap, run_sliceBound h2 hh hhm]
  · simp [Instr.sliceBounds, Sem.run_bind, run_sliceBound h3 hm hcap, run_sliceBound h2 hh hhm, run_sliceBound hlr hl hlh]

theorem op_sliceStr {t : TypeId} {x : Operand} {lo hi : Option Operand} {x' : AOpd} {lo' hi' : Option AOpd} (hr : Rel X T a μ) (ho : o.op = .slice t x lo hi none) (hd : descT X t = some .string)
    (h1 : trO X x = some x') (h2 : trOo X lo = some lo') (h3 : trOo X hi = some hi') (hrun : (opAct E (.sliceStr x' lo' hi')).run C ⟨T, μ.O⟩ = some (v, σ')) : σ'.T = T ∧ Done X o a μ σ'.O v := by
  simp only [opAct, run_ev, run_evo] at hrun
  obtain ⟨hb, rfl⟩ := run_give hrun
  have hx := trO_rel hr h1 μ.O
  cases hy : evalOpd ⟨T, μ.O⟩ x' <;> rw [hy] at hb hx <;> simp only [sliceStrV, reduceCtorEq] at hb
  rename_i s
  split at hb
  · rename_i l h hl hh
    split at hb <;> simp at hb
    rename_i hle
    subst hb
    simp only [VRel] at hx
    obtain ⟨bs, hbs, hbd⟩ := hx
    have hsz : s.length = bs.size := by rw [← hbd, Array.length_toList]; rfl
    have hbd' := run_sliceBounds2 (isSlice := false) (len := bs.size) (cap := bs.size) (w := μ.w) (trOo_orel hr h2 μ.O) (trOo_orel hr h3 μ.O) hl (by rw [← hsz]; exact hh) hle.1 (by omega)
    refine ⟨rfl, done_pure (val := .string (bs.extract l h)) hr.objs ?_ ?_⟩
    · simp only [execOp, ho]
      refine run_v ?_
      have hd' : X.P.underlying t = some .string := hd
      simp only [Instr.sliceAt, Sem.run_bind, run_underlying hd', Result.andThen_ok, Instr.slice, hbs]
      have hn : (Option.map a.eval (none : Option Operand)) = none := rfl
      simp only [hn, Option.isSome_none, Bool.false_eq_true, if_false, Sem.run_bind, hbd', Result.andThen_ok, Sem.run_pure]
    · simp only [VRel]
      refine ⟨_, rfl, ?_⟩
      rw [ByteArray.data_extract, Array.toList_extract, List.extract_eq_take_drop, hbd]
  · simp at hb

theorem op_slice {t e : TypeId} {x : Operand} {lo hi mx : Option Operand} {x' : AOpd} {lo' hi' mx' : Option AOpd} {sz : Nat} (hr : Rel X T a μ) (ho : o.op = .slice t x lo hi mx) (hd : descT X t = some (.slice e))
    (hn : sizeT X e = some sz) (h1 : trO X x = some x') (h2 : trOo X lo = some lo') (h3 : trOo X hi = some hi') (h4 : trOo X mx = some mx')
    (hrun : (opAct E (.slice sz x' lo' hi' mx')).run C ⟨T, μ.O⟩ = some (v, σ')) : σ'.T = T ∧ Done X o a μ σ'.O v := by
  simp only [opAct, run_ev, run_evo] at hrun
  have hx := trO_rel hr h1 μ.O
  have rl := trOo_orel hr h2 μ.O
  have rh := trOo_orel hr h3 μ.O
  have rm := trOo_orel hr h4 μ.O
  generalize lo'.map (evalOpd ⟨T, μ.O⟩) = lov at hrun rl
  generalize hi'.map (evalOpd ⟨T, μ.O⟩) = hiv at hrun rh
  generalize mx'.map (evalOpd ⟨T, μ.O⟩) = mxv at hrun rm
  have hd' : X.P.underlying t = some (.slice e) := hd
  have fin : ∀ (p : Option Addr) (len cap l h m : Nat), a.eval x = .slice p len cap → (Instr.sliceBounds true len cap (lo.map a.eval) (hi.map a.eval) (mx.map a.eval)).run X.P μ.w = .ok (l, h, m) μ.w →
      (execOp a.eval o).run X.P μ.w = .ok (.value (.slice (if m = l then p else p.map (·.add (l * sz))) (h - l) (m - l))) μ.w := fun p len cap l h m hp hb => by
    simp only [execOp, ho]
    refine run_v ?_
    simp only [Instr.sliceAt, Sem.run_bind, run_underlying hd', Result.andThen_ok, Instr.slice, hp, hb, run_sizeT hn, Sem.run_pure]
  split at hrun
  · rename_i r g off len ey
    rw [ey] at hx
    simp only [VRel] at hx
    obtain ⟨p, cap, hp, hlc, hge, haddr⟩ := hx
    simp only [Act.run] at hrun
    split at hrun
    · rename_i es hes
      have hcapes : es.length ≤ (μ.φ r).cap := (hr.objs.ok r es hes).2.1
      split at hrun
      · rename_i hgs
        obtain ⟨q1, q2⟩ := haddr hgs.1
        split at hrun
        · -- two bounds
          rename_i _ l h hl hh
          split at hrun
          · rename_i hle
            obtain ⟨rfl, rfl⟩ := run_done hrun
            have hmv : mx.map a.eval = none := by
              rcases rm with ⟨h5, h6⟩ | ⟨_, _, h5, _⟩
              · exact h6
              · cases h5
            have hb := run_sliceBounds2 (isSlice := true) (len := len) (cap := cap) (w := μ.w) rl rh hl hh hle.1 (by omega)
            refine ⟨rfl, done_pure hr.objs (fin p len cap l h cap hp (by rw [hmv]; exact hb)) ?_⟩
            simp only [VRel]
            refine ⟨_, _, rfl, by omega, hge, fun _ => ⟨by omega, ?_⟩⟩
            by_cases hcl : cap = l
            · left; omega
            · right
              rw [if_neg hcl]
              have : cap ≠ 0 := by omega
              rw [q2.resolve_left this, Option.map_some, addr_add, hgs.2]
              congr 2
              rw [Nat.add_mul]; omega
          · exact absurd hrun run_fail
        · -- three
          rename_i _ l h' m hl hh
          split at hrun
          · rename_i _ _ h m' hmx
            split at hrun
            · rename_i hle
              obtain ⟨rfl, rfl⟩ := run_done hrun
              rcases rm with ⟨h5, _⟩ | ⟨mxx, mxxv, h5, h6, hmrel⟩
              · cases h5
              · injection h5 with h5; subst h5
                rcases rh with ⟨h7, _⟩ | ⟨hix, hixv, h7, h8, hhrel⟩
                · cases h7
                · injection h7 with h7; subst h7
                  have hb := run_sliceBounds3 (isSlice := true) (len := len) (cap := cap) (w := μ.w) rl hhrel hmrel hl hh hmx hle.1 hle.2.1 (by omega)
                  refine ⟨rfl, done_pure hr.objs (fin p len cap l h' m' hp (by rw [h6, h8]; exact hb)) ?_⟩
                  split
                  · rename_i hml
                    simp only [VRel]
                    have e1 : h' - l = 0 := by omega
                    have e2 : m' - l = 0 := by omega
                    exact ⟨_, by rw [e1, e2]⟩
                  · simp [VRel]
            · exact absurd hrun run_fail
          · exact absurd hrun run_fail
        · exact absurd hrun run_fail
      · exact absurd hrun run_fail
    · exact absurd hrun run_fail
  · obtain ⟨hb0, rfl⟩ := run_give hrun
    refine ⟨rfl, ?_⟩
    generalize evalOpd ⟨T, μ.O⟩ x' = y at hb0 hx
    cases y <;> simp only [sliceV, reduceCtorEq] at hb0
    · -- nils
      simp only [VRel] at hx
      obtain ⟨p, hp⟩ := hx
      split at hb0
      · rename_i l h m hl hh hm
        split at hb0 <;> simp at hb0
        rename_i hle
        subst hb0
        have e1 : l = 0 := by omega
        have e2 : h = 0 := by omega
        have e3 : m = 0 := by omega
        subst e1; subst e2; subst e3
        have hb : ∃ m', (Instr.sliceBounds true 0 0 (lo.map a.eval) (hi.map a.eval) (mx.map a.eval)).run X.P μ.w = .ok (0, 0, m') μ.w ∧ m' = 0 := by
          rcases rm with ⟨rfl, h6⟩ | ⟨mxx, mxxv, rfl, h6, hmrel⟩
          · rw [h6]; exact ⟨_, run_sliceBounds2 (isSlice := true) (len := 0) (cap := 0) (w := μ.w) rl rh hl hh (Nat.le_refl _) (Nat.le_refl _), rfl⟩
          · rcases rh with ⟨rfl, h8⟩ | ⟨hix, hixv, rfl, h8, hhrel⟩
            · simp at hle
            · rw [h6, h8]; exact ⟨_, run_sliceBounds3 (isSlice := true) (len := 0) (cap := 0) (w := μ.w) rl hhrel hmrel hl hh hm (Nat.le_refl _) (Nat.le_refl _) (Nat.le_refl _), rfl⟩
        obtain ⟨m', hb, rfl⟩ := hb
        refine done_pure hr.objs (fin p 0 0 0 0 0 hp hb) ?_
        simp [VRel]
      · simp at hb0
    · -- lit
      rename_i sz' xs
      simp only [VRel] at hx
      obtain ⟨hpu, hli, p, cap, vs, hp, hlc, hvs, hmem⟩ := hx
      split at hb0
      · rename_i hszeq
        subst hszeq
        split at hb0
        · rename_i l h hl hh
          split at hb0 <;> simp at hb0
          rename_i hle
          subst hb0
          obtain ⟨_, hmv⟩ : (none : Option V) = none ∧ mx.map a.eval = none := by
            rcases rm with ⟨h5, h6⟩ | ⟨_, _, h5, _⟩
            · exact ⟨rfl, h6⟩
            · cases h5
          have hb := run_sliceBounds2 (isSlice := true) (len := xs.length) (cap := cap) (w := μ.w) rl rh hl hh hle.1 (by omega)
          refine done_pure hr.objs (fin p xs.length cap l h cap hp (by rw [hmv]; exact hb)) ?_
          have hwl : (window xs l (h - l)).length = h - l := by simp [window]; omega
          simp only [VRel]
          refine ⟨arePure_take _ (arePure_drop _ hpu), all_take _ (all_drop _ hli), _, _, (vs.drop l).take (h - l), by rw [hwl], by rw [hwl]; omega, VRels.take _ (VRels.drop _ hvs), ?_⟩
          by_cases hlh : l = h
          · left; simp [window, hlh]
          · right
            rcases hmem with hmem | ⟨b, q, hpq, hno, hbs, hrow⟩
            · subst hmem; simp at hle; omega
            · have : ¬ cap = l := by omega
              rw [if_neg this, hpq, Option.map_some, addr_add]
              exact ⟨b, q + l * sz', rfl, hno, hbs, (hrow.drop l).take _⟩
        · rename_i l h m hl hh
          split at hb0
          · rename_i hi0 m' hmx
            split at hb0 <;> simp at hb0
            rename_i hle
            subst hb0
            rcases rm with ⟨h5, _⟩ | ⟨mxx, mxxv, h5, h6, hmrel⟩
            · cases h5
            · injection h5 with h5; subst h5
              rcases rh with ⟨h7, _⟩ | ⟨hix, hixv, h7, h8, hhrel⟩
              · cases h7
              · injection h7 with h7; subst h7
                have hb := run_sliceBounds3 (isSlice := true) (len := xs.length) (cap := cap) (w := μ.w) rl hhrel hmrel hl hh hmx hle.1 hle.2.1 (by omega)
                refine done_pure hr.objs (fin p xs.length cap l h m' hp (by rw [h6, h8]; exact hb)) ?_
                split
                · simp only [VRel]
                  have e1 : h - l = 0 := by omega
                  have e2 : m' - l = 0 := by omega
                  exact ⟨_, by rw [e1, e2]⟩
                · simp [VRel]
          · simp at hb0
        · simp at hb0
      · simp at hb0

end
end Go.AM
