/-
  Calls: the callee's view at its entry. Own work.
-/
import Derived.Test.YtnjbmkcbhnkggaaAmCall2
set_option linter.unusedSimpArgs false
namespace Go.AM
open Go Go.RowKit

/-- where the callee's objects lie at its entry -/
def rowIn (φ : Nat → Row) (ws : List WRef) (i : Nat) : Row :=
  match ws with
  | [] => ⟨0, 0, 0⟩
  | w :: ws => if w.i = i then (match w.fresh with | none => φ w.r | some _ => ⟨0, 0, 0⟩) else rowIn φ ws i

inductive ArgAt (X : Ctx) (μ : Mu) (r0 i : Nat) (rs : List Nat) (ws : List WRef) : V → Value → Prop
  | plain {a : V} {v : Value} (hp : V.isPure a = true) (hs : SnapOk X μ rs a v) : ArgAt X μ r0 i rs ws a v
  | sl {r g off len : Nat} {es : List V} {v : Value} (hw : (⟨i, r, none⟩ : WRef) ∈ ws) (hes : (μ.O r).es = some es) (hfz : (μ.O r).fz = false) (hgen : (μ.O r).gen = g) (hpu : V.arePure es = true)
      (hfit : off + len ≤ es.length) (hv : VRel X μ (.sl r g off len) v) : ArgAt X μ r0 i rs ws (.msl (μ.O r).sz es off len) v
  | ptr {r g idx off : Nat} {es : List V} {v : Value} (hw : (⟨i, r, none⟩ : WRef) ∈ ws) (hes : (μ.O r).es = some es) (hfz : (μ.O r).fz = false) (hgen : (μ.O r).gen = g) (hpu : V.arePure es = true)
      (hv : VRel X μ (.ptr r g idx off) v) : ArgAt X μ r0 i rs ws (.mptr (μ.O r).sz es idx off) v
  | fresh {sz : Nat} {v : Value} (hw : (⟨i, r0 + i, some sz⟩ : WRef) ∈ ws) (hsz : 0 < sz) (hv : ∃ a, v = .slice a 0 0) : ArgAt X μ r0 i rs ws (.msl sz [] 0 0) v

section
variable {X : Ctx} {μ : Mu} {r0 : Nat}

theorem ArgAt.more {i : Nat} {rs rs' : List Nat} {ws ws' : List WRef} {a : V} {v : Value} (h : ArgAt X μ r0 i rs ws a v) (h1 : ∀ r ∈ rs, r ∈ rs') (h2 : ∀ w ∈ ws, w ∈ ws') : ArgAt X μ r0 i rs' ws' a v := by
  cases h with
  | plain hp hs => exact .plain hp (hs.more h1)
  | sl hw a b c d e f => exact .sl (h2 _ hw) a b c d e f
  | ptr hw a b c d f => exact .ptr (h2 _ hw) a b c d f
  | fresh hw a b => exact .fresh (h2 _ hw) a b

theorem Prep.at {i : Nat} {as : List V} {vs : List Value} {rs : List Nat} {ws : List WRef} (h : Prep X μ r0 i as vs rs ws) :
    as.length = vs.length ∧ (∀ w ∈ ws, i ≤ w.i) ∧ (∀ t a, as[t]? = some a → ∃ v, vs[t]? = some v ∧ ArgAt X μ r0 (i + t) rs ws a v) := by
  induction h with
  | nil i => simp
  | @plain i a v rs rs' as vs ws hp hs h ih =>
    obtain ⟨i1, i2, i3⟩ := ih
    refine ⟨by simp [i1], fun w hw => by have := i2 w hw; omega, fun t b hb => ?_⟩
    cases t with
    | zero => simp at hb; subst hb; exact ⟨v, by simp, .plain hp (hs.more (by simp +contextual))⟩
    | succ t =>
      obtain ⟨v', k1, k2⟩ := i3 t b (by simpa using hb)
      refine ⟨v', by simpa using k1, ?_⟩
      have e : i + (t + 1) = i + 1 + t := by omega
      rw [e]; exact k2.more (by simp +contextual) (fun w hw => hw)
  | @sl i r g off len es v rs as vs ws hes hfz hgen hpu hfit hv h ih =>
    obtain ⟨i1, i2, i3⟩ := ih
    refine ⟨by simp [i1], fun w hw => ?_, fun t b hb => ?_⟩
    · rcases List.mem_cons.1 hw with rfl | hw
      · exact Nat.le_refl _
      · have := i2 w hw; omega
    · cases t with
      | zero => simp at hb; subst hb; exact ⟨v, by simp, .sl (by simp) hes hfz hgen hpu hfit hv⟩
      | succ t =>
        obtain ⟨v', k1, k2⟩ := i3 t b (by simpa using hb)
        refine ⟨v', by simpa using k1, ?_⟩
        have e : i + (t + 1) = i + 1 + t := by omega
        rw [e]; exact k2.more (fun r hr => hr) (fun w hw => by simp [hw])
  | @ptr i r g idx off es v rs as vs ws hes hfz hgen hpu hv h ih =>
    obtain ⟨i1, i2, i3⟩ := ih
    refine ⟨by simp [i1], fun w hw => ?_, fun t b hb => ?_⟩
    · rcases List.mem_cons.1 hw with rfl | hw
      · exact Nat.le_refl _
      · have := i2 w hw; omega
    · cases t with
      | zero => simp at hb; subst hb; exact ⟨v, by simp, .ptr (by simp) hes hfz hgen hpu hv⟩
      | succ t =>
        obtain ⟨v', k1, k2⟩ := i3 t b (by simpa using hb)
        refine ⟨v', by simpa using k1, ?_⟩
        have e : i + (t + 1) = i + 1 + t := by omega
        rw [e]; exact k2.more (fun r hr => hr) (fun w hw => by simp [hw])
  | @fresh i sz v rs as vs ws hsz hv h ih =>
    obtain ⟨i1, i2, i3⟩ := ih
    refine ⟨by simp [i1], fun w hw => ?_, fun t b hb => ?_⟩
    · rcases List.mem_cons.1 hw with rfl | hw
      · exact Nat.le_refl _
      · have := i2 w hw; omega
    · cases t with
      | zero => simp at hb; subst hb; exact ⟨v, by simp, .fresh (by simp) hsz hv⟩
      | succ t =>
        obtain ⟨v', k1, k2⟩ := i3 t b (by simpa using hb)
        refine ⟨v', by simpa using k1, ?_⟩
        have e : i + (t + 1) = i + 1 + t := by omega
        rw [e]; exact k2.more (fun r hr => hr) (fun w hw => by simp [hw])

/-- the places in 'ws' grow -/
inductive Inc : Nat → List WRef → Prop
  | nil (i : Nat) : Inc i []
  | cons {i : Nat} {w : WRef} {ws : List WRef} (h : i ≤ w.i) (hs : Inc (w.i + 1) ws) : Inc i (w :: ws)
theorem Inc.le {i j : Nat} {ws : List WRef} (h : Inc j ws) (hij : i ≤ j) : Inc i ws := by
  cases h with
  | nil => exact .nil _
  | cons h hs => exact .cons (by omega) hs
theorem Inc.mem {i : Nat} {ws : List WRef} (h : Inc i ws) : ∀ w ∈ ws, i ≤ w.i := by
  induction h with
  | nil => simp
  | cons h hs ih =>
    intro w hw
    rcases List.mem_cons.1 hw with rfl | hw
    · exact h
    · have := ih w hw; omega

theorem Prep.inc {i : Nat} {as : List V} {vs : List Value} {rs : List Nat} {ws : List WRef} (h : Prep X μ r0 i as vs rs ws) : Inc i ws := by
  induction h with
  | nil i => exact .nil i
  | plain hp hs h ih => exact ih.le (by omega)
  | sl _ _ _ _ _ _ h ih => exact .cons (by simp) ih
  | ptr _ _ _ _ _ h ih => exact .cons (by simp) ih
  | fresh _ _ h ih => exact .cons (by simp) ih

theorem rowIn_mem {φ : Nat → Row} {i : Nat} {ws : List WRef} (h : Inc i ws) : ∀ w ∈ ws, rowIn φ ws w.i = (match w.fresh with | none => φ w.r | some _ => ⟨0, 0, 0⟩) := by
  induction h with
  | nil => simp
  | @cons i w ws h hs ih =>
    intro w' hw
    rcases List.mem_cons.1 hw with rfl | hw
    · simp [rowIn]
    · have := hs.mem w' hw
      rw [rowIn, if_neg (by omega)]
      exact ih w' hw

theorem Inc.uniq {i : Nat} {ws : List WRef} (h : Inc i ws) : ∀ w ∈ ws, ∀ w' ∈ ws, w.i = w'.i → w = w' := by
  induction h with
  | nil => simp
  | @cons i w ws h hs ih =>
    intro a ha b hb e
    rcases List.mem_cons.1 ha with ha | ha <;> rcases List.mem_cons.1 hb with hb | hb
    · rw [ha, hb]
    · have := hs.mem b hb; subst ha; omega
    · have := hs.mem a ha; subst hb; omega
    · exact ih a ha b hb e

theorem distinct_uniq : ∀ {ws : List WRef}, distinct (ws.map (·.r)) = true → ∀ w ∈ ws, ∀ w' ∈ ws, w.r = w'.r → w = w'
  | [], _, _, h, _, _, _ => by simp at h
  | w :: ws, hd, a, ha, b, hb, e => by
    simp only [List.map_cons, distinct, Bool.and_eq_true, Bool.not_eq_true', List.contains_eq_mem, decide_eq_false_iff_not] at hd
    rcases List.mem_cons.1 ha with ha | ha <;> rcases List.mem_cons.1 hb with hb | hb
    · rw [ha, hb]
    · exact absurd (List.mem_map.2 ⟨b, hb, by rw [← e, ha]⟩) hd.1
    · exact absurd (List.mem_map.2 ⟨a, ha, by rw [e, hb]⟩) hd.1
    · exact distinct_uniq hd.2 a ha b hb e

/-- blocks that the callee may lead nothing to -/
def banned (X : Ctx) (μ : Mu) (rs : List Nat) (ws : List WRef) (b : Nat) : Prop :=
  X.ban b ∨ ∃ r, r ∉ rs ∧ r ∉ ws.map (·.r) ∧ (μ.O r).es.isSome = true ∧ (μ.O r).fz = false ∧ (μ.φ r).cap ≠ 0 ∧ (μ.φ r).blk = b


theorem entry_obj {as : List V} {vals : List Value} {rs : List Nat} {ws : List WRef} (hp : Prep X μ r0 0 as vals rs ws) (j : Nat) :
    (enter as).O j = deadObj ∨
    (∃ r es, (⟨j, r, none⟩ : WRef) ∈ ws ∧ (μ.O r).es = some es ∧ (μ.O r).fz = false ∧ V.arePure es = true ∧ ((enter as).O j).gen = 0 ∧ ((enter as).O j).sz = (μ.O r).sz ∧ ((enter as).O j).fz = false ∧ ((enter as).O j).es = some es ∧ rowIn μ.φ ws j = μ.φ r) ∨
    (∃ sz, (⟨j, r0 + j, some sz⟩ : WRef) ∈ ws ∧ 0 < sz ∧ ((enter as).O j).gen = 0 ∧ ((enter as).O j).sz = sz ∧ ((enter as).O j).fz = false ∧ ((enter as).O j).es = some [] ∧ rowIn μ.φ ws j = ⟨0, 0, 0⟩) := by
  obtain ⟨hl, -, hat⟩ := hp.at
  have hi := hp.inc
  cases ha : as[j]? with
  | none => left; simp [enter, ha]
  | some a =>
    obtain ⟨v, hv, hA⟩ := hat j a ha
    simp only [Nat.zero_add] at hA
    cases hA with
    | plain hpu hs =>
      left
      cases a <;> simp [V.isPure] at hpu <;> simp [enter, ha]
    | @sl r g off len es v hw hes hfz hgen hpu hfit hvr =>
      right; left
      exact ⟨r, es, hw, hes, hfz, hpu, by simp [enter, ha], by simp [enter, ha], by simp [enter, ha], by simp [enter, ha], by have := rowIn_mem (φ := μ.φ) hi _ hw; simpa using this⟩
    | @ptr r g idx off es v hw hes hfz hgen hpu hvr =>
      right; left
      exact ⟨r, es, hw, hes, hfz, hpu, by simp [enter, ha], by simp [enter, ha], by simp [enter, ha], by simp [enter, ha], by have := rowIn_mem (φ := μ.φ) hi _ hw; simpa using this⟩
    | @fresh sz v hw hsz hvr =>
      right; right
      exact ⟨sz, hw, hsz, by simp [enter, ha], by simp [enter, ha], by simp [enter, ha], by simp [enter, ha], by have := rowIn_mem (φ := μ.φ) hi _ hw; simpa using this⟩

theorem entry_own {as : List V} {vals : List Value} {rs : List Nat} {ws : List WRef} (hp : Prep X μ r0 0 as vals rs ws) {b : Nat} (h : (⟨μ.w, rowIn μ.φ ws, (enter as).O⟩ : Mu).own b) :
    ∃ i r, (⟨i, r, none⟩ : WRef) ∈ ws ∧ (μ.O r).es.isSome = true ∧ (μ.O r).fz = false ∧ (μ.φ r).cap ≠ 0 ∧ (μ.φ r).blk = b := by
  obtain ⟨j, h1, h2, h3, h4⟩ := h
  simp only at h1 h2 h3 h4
  rcases entry_obj hp j with h | ⟨r, es, k1, k2, k3, k4, k5, k6, k7, k8, k9⟩ | ⟨sz, k1, k2, k3, k4, k5, k6, k7⟩
  · rw [h] at h1; simp [deadObj] at h1
  · rw [k9] at h3 h4
    exact ⟨j, r, k1, by simp [k2], k3, h3, h4⟩
  · rw [k7] at h3; simp at h3

theorem entry_Own {as : List V} {vals : List Value} {rs : List Nat} {ws : List WRef} (ho : Objs X μ) (hp : Prep X μ r0 0 as vals rs ws) (hap : apart rs (ws.map (·.r)) = true) {b : Nat}
    (h : Own ⟨X.toTrEnv, banned X μ rs ws⟩ ⟨μ.w, rowIn μ.φ ws, (enter as).O⟩ b) :
    Own X μ b ∧ ∀ r ∈ rs, (μ.O r).es.isSome = true → (μ.φ r).cap ≠ 0 → b ≠ (μ.φ r).blk := by
  rcases h with h | h
  · obtain ⟨i, r, h1, h2, h3, h4, h5⟩ := entry_own hp h
    refine ⟨.inl ⟨r, h2, h3, h4, h5⟩, fun r' hr' k1 k2 e => ?_⟩
    have hne : r ≠ r' := by
      rintro rfl
      have := List.all_eq_true.1 hap r (List.mem_map.2 ⟨_, h1, rfl⟩)
      simp [hr'] at this
    exact ho.inj r r' hne h2 k1 h4 k2 (h5.trans e)
  · rcases h with h | ⟨r, h0, h1, h2, h3, h4, h5⟩
    · refine ⟨.inr h, fun r' hr' k1 k2 e => ho.nob r' k1 k2 (e ▸ h)⟩
    · refine ⟨.inl ⟨r, h2, h3, h4, h5⟩, fun r' hr' k1 k2 e => ?_⟩
      have hne : r ≠ r' := fun e => h0 (e ▸ hr')
      exact ho.inj r r' hne h2 k1 h4 k2 (h5.trans e)

theorem entry_sound {as : List V} {vals : List Value} {rs : List Nat} {ws : List WRef} (ho : Objs X μ) (hp : Prep X μ r0 0 as vals rs ws) (hap : apart rs (ws.map (·.r)) = true) (hd : distinct (ws.map (·.r)) = true) :
    vals.length = as.length ∧ (∀ t v, vals[t]? = some v → VRel ⟨X.toTrEnv, banned X μ rs ws⟩ ⟨μ.w, rowIn μ.φ ws, (enter as).O⟩ ((enter as).T t) v) ∧
      Objs ⟨X.toTrEnv, banned X μ rs ws⟩ ⟨μ.w, rowIn μ.φ ws, (enter as).O⟩ := by
  have hown := fun b => entry_Own (b := b) ho hp hap
  obtain ⟨hl, -, hat⟩ := hp.at
  have hi := hp.inc
  refine ⟨hl.symm, fun t v hv => ?_, ?_⟩
  · have ha : t < as.length := by rw [hl]; exact (List.getElem?_eq_some_iff.1 hv).1
    obtain ⟨v', hv', hA⟩ := hat t as[t] (List.getElem?_eq_getElem ha)
    rw [hv] at hv'; injection hv' with hv'; subst hv'
    have hat' : as[t]? = some as[t] := List.getElem?_eq_getElem ha
    simp only [Nat.zero_add] at hA
    generalize hae : as[t] = a at hA hat'
    cases hA with
    | plain hpu hs =>
      have : (enter as).T t = a := by cases a <;> simp [V.isPure] at hpu <;> simp [enter, hat']
      rw [this]
      exact hs _ _ rfl hown
    | @sl r g off len es v hw hes hfz hgen hpu hfit hvr =>
      have e1 : (enter as).T t = .sl t 0 off len := by simp [enter, hat']
      have e2 : ((enter as).O t).gen = 0 ∧ ((enter as).O t).sz = (μ.O r).sz := by simp [enter, hat']
      have e3 : rowIn μ.φ ws t = μ.φ r := by have := rowIn_mem (φ := μ.φ) hi _ hw; simpa using this
      rw [e1]
      simp only [VRel] at hvr ⊢
      obtain ⟨a, cap, rfl, q1, q2, q3⟩ := hvr
      refine ⟨a, cap, rfl, q1, Nat.zero_le _, fun _ => ?_⟩
      rw [e2.2, e3]; exact q3 hgen
    | @ptr r g idx off es v hw hes hfz hgen hpu hvr =>
      have e1 : (enter as).T t = .ptr t 0 idx off := by simp [enter, hat']
      have e2 : ((enter as).O t).gen = 0 ∧ ((enter as).O t).sz = (μ.O r).sz := by simp [enter, hat']
      have e3 : rowIn μ.φ ws t = μ.φ r := by have := rowIn_mem (φ := μ.φ) hi _ hw; simpa using this
      rw [e1]
      simp only [VRel] at hvr ⊢
      obtain ⟨a, rfl, q2, q3⟩ := hvr
      refine ⟨a, rfl, Nat.zero_le _, fun _ => ?_⟩
      rw [e2.2, e3]; exact q3 hgen
    | @fresh sz v hw hsz hvr =>
      have e1 : (enter as).T t = .sl t 0 0 0 := by simp [enter, hat']
      have e3 : rowIn μ.φ ws t = ⟨0, 0, 0⟩ := by have := rowIn_mem (φ := μ.φ) hi _ hw; simpa using this
      rw [e1]
      obtain ⟨a, rfl⟩ := hvr
      simp only [VRel]
      exact ⟨a, 0, rfl, Nat.le_refl _, Nat.zero_le _, fun _ => ⟨by rw [e3], .inl rfl⟩⟩
  · refine ⟨fun j es hes => ?_, fun j1 j2 hne h1 h2 h3 h4 => ?_, fun j h1 h2 hb => ?_, fun b hb => ?_⟩
    · rcases entry_obj hp j with h | ⟨r, es', k1, k2, k3, k4, k5, k6, k7, k8, k9⟩ | ⟨sz, k1, k2, k3, k4, k5, k6, k7⟩
      · simp only [h, deadObj] at hes; simp at hes
      · simp only at hes
        rw [k8] at hes; injection hes with hes; subst hes
        obtain ⟨q1, q2, q3, q4⟩ := ho.ok r es' k2
        simp only [k6, k9]
        refine ⟨q1, q2, q3, q4.imp id ?_⟩
        rintro ⟨c, T, vs, p1, p2, p3, p4⟩
        exact ⟨c, T, vs, p1, p2, pures_transfer (X := X) (μ := μ) (μ' := ⟨μ.w, rowIn μ.φ ws, (enter as).O⟩) rfl (fun b hb => (hown b hb).1) k4 p3, p4⟩
      · simp only at hes
        rw [k6] at hes; injection hes with hes; subst hes
        simp only [k4, k7]
        exact ⟨k2, by simp, rfl, by simp⟩
    · simp only at h1 h2 h3 h4 ⊢
      rcases entry_obj hp j1 with h | ⟨r, es', k1, k2, k3, k4, k5, k6, k7, k8, k9⟩ | ⟨sz, k1, k2, k3, k4, k5, k6, k7⟩
      · rw [h] at h1; simp [deadObj] at h1
      · rcases entry_obj hp j2 with h | ⟨r', es2, l1, l2, l3, l4, l5, l6, l7, l8, l9⟩ | ⟨sz, l1, l2, l3, l4, l5, l6, l7⟩
        · rw [h] at h2; simp [deadObj] at h2
        · rw [k9] at h3 ⊢
          rw [l9] at h4 ⊢
          refine ho.inj r r' (fun e => ?_) (by simp [k2]) (by simp [l2]) h3 h4
          have := distinct_uniq hd _ k1 _ l1 e
          injection this with e1; exact hne e1
        · rw [l7] at h4; simp at h4
      · rw [k7] at h3; simp at h3
    · simp only at h1 h2 hb
      rcases entry_obj hp j with h | ⟨r, es', k1, k2, k3, k4, k5, k6, k7, k8, k9⟩ | ⟨sz, k1, k2, k3, k4, k5, k6, k7⟩
      · rw [h] at h1; simp [deadObj] at h1
      · rw [k9] at h2 hb
        rcases hb with hb | ⟨r', g0, g1, g2, g3, g4, g5⟩
        · exact ho.nob r (by simp [k2]) h2 hb
        · have hne : r' ≠ r := fun e => g1 (List.mem_map.2 ⟨_, k1, e.symm⟩)
          exact ho.inj r' r hne g2 (by simp [k2]) g4 h2 g5
      · rw [k7] at h2; simp at h2
    · rcases hb with hb | ⟨r', g0, g1, g2, g3, g4, g5⟩
      · exact ho.blt b hb
      · obtain ⟨es', he⟩ := Option.isSome_iff_exists.1 g2
        obtain ⟨_, _, _, q4⟩ := ho.ok r' es' he
        rcases q4 with q4 | ⟨_, _, _, p1, _⟩
        · exact absurd q4 g4
        · rw [← g5]; exact (Array.getElem?_eq_some_iff.1 p1).1

end
end Go.AM
