/-
  Calls: what the callee hands back becomes the caller's. Own work.
-/
import Derived.Test.YtnjbmkcbhnkggaaAmCall5
set_option linter.unusedSimpArgs false
namespace Go.AM
open Go Go.RowKit

/-- who may write a block once the call is over -/
def after (Y : Ctx) (μ1 : Mu) (n : Nat) (thaw : Bool) (b : Nat) : Prop :=
  Y.ban b ∨ ∃ j, (thaw = true ∨ j < n) ∧ (μ1.O j).es.isSome = true ∧ (μ1.O j).fz = false ∧ (μ1.φ j).cap ≠ 0 ∧ (μ1.φ j).blk = b
def quiet (μ1 : Mu) (φ : Nat → Row) (O : Nat → Obj) : Mu := ⟨μ1.w, φ, fun r => { O r with fz := true }⟩

theorem quiet_own {μ1 : Mu} {φ : Nat → Row} {O : Nat → Obj} {b : Nat} : ¬ (quiet μ1 φ O).own b := by
  rintro ⟨r, _, h, _⟩; simp [quiet] at h

theorem quiet_le {μ1 : Mu} {φ φ' : Nat → Row} {O O' : Nat → Obj} (h : GMono φ O φ' O') : Le (quiet μ1 φ O) (quiet μ1 φ' O') :=
  ⟨Nat.le_refl _, fun _ _ _ => ⟨rfl, quiet_own⟩, fun r => (h r).1, fun r e => (h r).2 e, rfl, rfl, rfl, fun _ _ => rfl, fun a ha => frozen_out (w := μ1.w) ha⟩

theorem distinct_append : ∀ {as bs : List Nat}, distinct (as ++ bs) = true → distinct as = true ∧ distinct bs = true ∧ ∀ b ∈ bs, b ∉ as
  | [], bs, h => ⟨rfl, h, fun _ _ => by simp⟩
  | a :: as, bs, h => by
    simp only [List.cons_append, distinct, Bool.and_eq_true, Bool.not_eq_true', List.contains_eq_mem, decide_eq_false_iff_not, List.mem_append, not_or] at h ⊢
    obtain ⟨h1, h2⟩ := h
    obtain ⟨k1, k2, k3⟩ := distinct_append h2
    refine ⟨⟨h1.1, k1⟩, k2, fun b hb => ?_⟩
    simp only [List.mem_cons, not_or]
    exact ⟨fun e => h1.2 (e ▸ hb), k3 b hb⟩

theorem lookRef_mem {i r g : Nat} : ∀ {gs : List (Nat × Nat × Nat)}, lookRef i gs = some (r, g) → (i, r, g) ∈ gs
  | [], h => by simp [lookRef] at h
  | (j, r', g') :: gs, h => by
    simp only [lookRef] at h
    split at h
    · rename_i e
      subst e
      simp only [Option.some.injEq, Prod.mk.injEq] at h
      simp [h.1, h.2]
    · exact List.mem_cons_of_mem _ (lookRef_mem h)

theorem areScalar_take : ∀ {es : List V} (n : Nat), V.areScalar es = true → V.areScalar (es.take n) = true
  | _, 0, _ => by simp [V.areScalar]
  | [], _ + 1, _ => by simp [V.areScalar]
  | x :: xs, n + 1, h => by
    simp only [V.areScalar, Bool.and_eq_true] at h
    simp only [List.take_succ_cons, V.areScalar, Bool.and_eq_true]
    exact ⟨h.1, areScalar_take n h.2⟩
theorem areScalar_drop : ∀ {es : List V} (n : Nat), V.areScalar es = true → V.areScalar (es.drop n) = true
  | _, 0, h => by simpa using h
  | [], _ + 1, _ => by simp [V.areScalar]
  | x :: xs, n + 1, h => by
    simp only [V.areScalar, Bool.and_eq_true] at h
    simpa using areScalar_drop n h.2
theorem areScalar_window {es : List V} {off len : Nat} (h : V.areScalar es = true) : V.areScalar (window es off len) = true := areScalar_take _ (areScalar_drop _ h)

section
variable {Y : Ctx} {μf μ1 : Mu} {n : Nat} {thaw : Bool} {C : Oracle} {T : Nat → V}

theorem after_sub {φ : Nat → Row} {O : Nat → Obj} {b : Nat} (h : Own ⟨Y.toTrEnv, after Y μ1 n thaw⟩ (quiet μ1 φ O) b) : Own Y μ1 b := by
  rcases h with h | h | ⟨j, _, h1, h2, h3, h4⟩
  · exact absurd h quiet_own
  · exact .inr h
  · exact .inl ⟨j, h1, h2, h3, h4⟩

theorem importCell_sound (h1 : Objs Y μ1) {U : Nat → Prop} {A : Nat → Option Nat} {φ : Nat → Row} {O : Nat → Obj} {gs : List (Nat × Nat × Nat)} {c : V} {rs : List Nat} {val : Value} {r : Nat} {k : V → Act} {p : V × St}
    (ht : Taken Y μf μ1 U A φ O) (hlo : ∀ r, (μf.O r).gen ≤ (O r).gen) (hgs : ∀ x ∈ gs, RefOk μ1 φ O x.1 x.2.1 x.2.2) (he : Exp Y μ1 n c rs val) (hU : ∀ j ∈ rs, n ≤ j → ¬ U j) (hrun : (importCell thaw r gs c k).run C ⟨T, O⟩ = some p) :
    ∃ A' φ' O' c', (k c').run C ⟨T, O'⟩ = some p ∧ Taken Y μf μ1 (fun j => U j ∨ (thaw = true ∧ j ∈ rs)) A' φ' O' ∧ GMono φ O φ' O' ∧ (∀ r, A r ≠ none → A' r ≠ none) ∧
      VRel ⟨Y.toTrEnv, after Y μ1 n thaw⟩ (quiet μ1 φ' O') c' val ∧ (c.cellish = true → c'.isCell = true) := by
  have htk : Taken Y μf μ1 (fun j => U j ∨ (thaw = true ∧ j ∈ rs)) A φ O := ⟨ht.non, fun r j e => ⟨(ht.som r j e).1, .inl (ht.som r j e).2⟩, ht.inj⟩
  cases he with
  | pure hp hv =>
    refine ⟨A, φ, O, c, ?_, htk, GMono.refl _ _, fun _ h => h, pure_transfer (X := Y) (μ := μ1) (μ' := quiet μ1 φ O) rfl (fun b => after_sub) hp hv, fun hc => ?_⟩
    · cases c <;> simp [V.isPure] at hp <;> simpa [importCell, V.isPure, hp] using hrun
    · cases c <;> simp_all [V.isPure, V.cellish]
  | @sl j g off len es val hr hes hg hl hv =>
    simp only [importCell] at hrun
    split at hrun
    · rename_i r' g' hlk
      obtain ⟨g1, g2⟩ := hgs _ (lookRef_mem hlk)
      refine ⟨A, φ, O, _, hrun, htk, GMono.refl _ _, fun _ h => h, ?_, fun _ => rfl⟩
      simp only [VRel] at hv ⊢
      obtain ⟨a, cap, rfl, q1, q2, q3⟩ := hv
      refine ⟨a, cap, rfl, q1, g1, fun e => ?_⟩
      obtain ⟨e1, e2⟩ := g2 e
      simp only [quiet] at e1 e2 ⊢
      rw [e1, e2]; exact q3 hg
    · exact absurd hrun run_fail
  | @own j g off len es val hr hes hfz hg hl hp hv =>
    simp only [importCell] at hrun
    obtain ⟨q1, q2, q3, q4⟩ := h1.ok j es hes
    have hwl : (window es off len).length = len := by simp [window]; omega
    have hwb : (window es off len).all (isBlank · (μ1.O j).sz) = true := by
      simp only [List.all_eq_true] at q3 ⊢
      exact fun x hx => q3 x (List.mem_of_mem_drop (List.mem_of_mem_take hx))
    have hlies : (window es off len).all V.lies = true := by
      simp only [List.all_eq_true] at hwb ⊢
      exact fun x hx => (isBlank_lies (hwb x hx)).1
    simp only [VRel] at hv
    obtain ⟨a, cap, rfl, s1, s2, s3⟩ := hv
    obtain ⟨a1, a2⟩ := s3 hg
    cases hth : thaw with
    | true =>
      subst hth
      rw [if_pos rfl] at hrun
      simp only [Act.run] at hrun
      have hrow : (⟨(μ1.φ j).blk, (μ1.φ j).base + off * (μ1.O j).sz, cap⟩ : Row).cap = cap := rfl
      have htook : Took Y μf μ1 r j ⟨(μ1.φ j).blk, (μ1.φ j).base + off * (μ1.O j).sz, cap⟩ { gen := (O r).gen + 1, sz := (μ1.O j).sz, arr := true, fz := false, es := some (window es off len) } := by
        refine ⟨⟨_, rfl, hp, q1, by simp only [hwl]; exact s1, hwb, ?_⟩, ⟨by simp [hes], hfz⟩, fun hc => ⟨?_, rfl⟩, .inl ?_, fun hs es' he => ?_⟩
        · rcases q4 with q4 | ⟨cc, TT, vs, p1, p2, p3, p4⟩
          · left; simp only; omega
          · right
            refine ⟨cc, TT, (vs.drop off).take len, p1, ?_, VRels.take _ (VRels.drop _ p3), (p4.drop off).take len⟩
            simp only
            rw [← a1, Nat.add_mul] at p2
            omega
        · simp only at hc; omega
        · have := hlo r; simp only; omega
        · simp only at he; injection he with he; subst he
          exact areScalar_window (hs es hes)
      have hm : GMono φ O (upd φ r ⟨(μ1.φ j).blk, (μ1.φ j).base + off * (μ1.O j).sz, cap⟩) (upd O r { gen := (O r).gen + 1, sz := (μ1.O j).sz, arr := true, fz := false, es := some (window es off len) }) :=
        GMono.upd (.inl (by simp))
      refine ⟨_, _, _, _, hrun, ht.take (U' := fun i => U i ∨ (True ∧ i ∈ [j])) (hU j (by simp) hr) (fun i hi => .inl hi) (by simp) htook |> fun t => by simpa using t, hm, fun r' hr' => ?_, ?_, fun _ => rfl⟩
      · by_cases e : r' = r
        · subst e; simp [upd_same]
        · rw [upd_ne _ _ e]; exact hr'
      · simp only [VRel, quiet, upd_same]
        refine ⟨a, cap, by rw [hwl], by rw [hwl]; exact s1, Nat.le_refl _, fun _ => ⟨by omega, a2.imp id fun e => ?_⟩⟩
        rw [e]; simp
    | false =>
      subst hth
      rw [if_neg (by simp)] at hrun
      refine ⟨A, φ, O, _, hrun, htk, GMono.refl _ _, fun _ h => h, ?_, fun _ => rfl⟩
      simp only [VRel]
      by_cases hl0 : len = 0
      · exact ⟨hp, hlies, a, cap, [], by rw [hwl], by omega, by simp [window, hl0, VRels], .inl (by simpa using hwl.trans hl0)⟩
      · rcases q4 with q4 | ⟨cc, TT, vs, p1, p2, p3, p4⟩
        · omega
        · refine ⟨hp, hlies, a, cap, (vs.drop off).take len, by rw [hwl], by omega, pures_transfer (X := Y) (μ := μ1) (μ' := quiet μ1 φ O) rfl (fun b => after_sub) hp (VRels.take _ (VRels.drop _ p3)),
            .inr ⟨_, _, a2.resolve_left (by omega), ?_, (Array.getElem?_eq_some_iff.1 p1).1, (p4.drop off).take len⟩⟩
          rintro (h | h | ⟨j', k0, k1, k2, k3, k4⟩)
          · exact quiet_own h
          · exact h1.nob j (by simp [hes]) (by omega) h
          · have k0' : j' < n := by simpa using k0
            exact h1.inj j' j (by omega) k1 (by simp [hes]) k3 (by omega) k4


theorem Taken.lo {U : Nat → Prop} {A : Nat → Option Nat} {φ : Nat → Row} {O : Nat → Obj} (h : Taken Y μf μ1 U A φ O) (r : Nat) : (μf.O r).gen ≤ (O r).gen := by
  cases e : A r with
  | none => rw [(h.non r e).1]; exact Nat.le_refl _
  | some j =>
    rcases (h.som r j e).1.gen with h | ⟨h, _⟩ <;> omega

/-- what an import brings about -/
def Brought (Y : Ctx) (μf μ1 : Mu) (C : Oracle) (T : Nat → V) (U : Nat → Prop) (A : Nat → Option Nat) (φ : Nat → Row) (O : Nat → Obj) {α : Type} (k : α → Act) (p : V × St) (G : (Nat → Row) → (Nat → Obj) → α → Prop) : Prop :=
  ∃ A' φ' O' c', (k c').run C ⟨T, O'⟩ = some p ∧ Taken Y μf μ1 U A' φ' O' ∧ GMono φ O φ' O' ∧ (∀ r, A r ≠ none → A' r ≠ none) ∧ G φ' O' c'

theorem Taken.more {U U' : Nat → Prop} {A : Nat → Option Nat} {φ : Nat → Row} {O : Nat → Obj} (h : Taken Y μf μ1 U A φ O) (hU : ∀ j, U j → U' j) : Taken Y μf μ1 U' A φ O :=
  ⟨h.non, fun r j e => ⟨(h.som r j e).1, hU _ (h.som r j e).2⟩, h.inj⟩

theorem importCells_sound (h1 : Objs Y μ1) : ∀ {U : Nat → Prop} {A : Nat → Option Nat} {φ : Nat → Row} {O : Nat → Obj} {gs : List (Nat × Nat × Nat)} {cs : List V} {rs : List Nat} {vals : List Value} {r : Nat} {k : List V → Act} {p : V × St},
    Taken Y μf μ1 U A φ O → (∀ x ∈ gs, RefOk μ1 φ O x.1 x.2.1 x.2.2) → Exps Y μ1 n cs rs vals → (∀ j ∈ rs, n ≤ j → ¬ U j) → distinct rs = true → (importCells thaw r gs cs k).run C ⟨T, O⟩ = some p →
    Brought Y μf μ1 C T (fun j => U j ∨ (thaw = true ∧ j ∈ rs)) A φ O k p fun φ' O' cs' => VRels ⟨Y.toTrEnv, after Y μ1 n thaw⟩ (quiet μ1 φ' O') cs' vals ∧ (cs.all V.cellish = true → cs'.all V.isCell = true) := by
  intro U A φ O gs cs rs vals r k p ht hgs he hU hd hrun
  induction he generalizing U A φ O r k with
  | nil => exact ⟨A, φ, O, [], hrun, ht.more fun j h => .inl h, GMono.refl _ _, fun _ h => h, by simp [VRels], fun _ => rfl⟩
  | @cons c rs rs' val cs vals h hs ih =>
    obtain ⟨d1, d2, d3⟩ := distinct_append hd
    simp only [importCells] at hrun
    obtain ⟨A1, φ1, O1, c1, k1, k2, k3, k4, k5, k6⟩ := importCell_sound h1 ht ht.lo hgs h (fun j hj => hU j (by simp [hj])) hrun
    obtain ⟨A2, φ2, O2, cs2, m1, m2, m3, m4, m5, m6⟩ := ih k2 (fun x hx => (hgs x hx).mono k3) (fun j hj hn hu => by
      rcases hu with hu | ⟨_, hu⟩
      · exact hU j (by simp [hj]) hn hu
      · exact d3 j hj hu) d2 k1
    refine ⟨A2, φ2, O2, c1 :: cs2, m1, m2.more fun j hj => ?_, k3.trans m3, fun r' h => m4 r' (k4 r' h), ?_, ?_⟩
    · rcases hj with (hj | ⟨e, hj⟩) | ⟨e, hj⟩
      · exact .inl hj
      · exact .inr ⟨e, by simp [hj]⟩
      · exact .inr ⟨e, by simp [hj]⟩
    · simp only [VRels]; exact ⟨VRel.mono (quiet_le m3) k5, m5⟩
    · simp only [List.all_cons, Bool.and_eq_true]
      exact fun hc => ⟨k6 hc.1, m6 hc.2⟩

theorem cells_of_cellish : ∀ {cs : List V}, V.arePure cs = true → cs.all V.cellish = true → cs.all V.isCell = true
  | [], _, _ => rfl
  | a :: as, hp, hc => by
    simp only [V.arePure, Bool.and_eq_true] at hp
    simp only [List.all_cons, Bool.and_eq_true] at hc ⊢
    refine ⟨?_, cells_of_cellish hp.2 hc.2⟩
    have h1 := hp.1
    have h2 := hc.1
    cases a <;> simp_all [V.isPure, V.cellish]

theorem importV_sound (h1 : Objs Y μ1) {U : Nat → Prop} {A : Nat → Option Nat} {φ : Nat → Row} {O : Nat → Obj} {gs : List (Nat × Nat × Nat)} {c : V} {rs : List Nat} {val : Value} {r : Nat} {k : V → Act} {p : V × St}
    (ht : Taken Y μf μ1 U A φ O) (hgs : ∀ x ∈ gs, RefOk μ1 φ O x.1 x.2.1 x.2.2) (he : ExpV Y μ1 n c rs val) (hU : ∀ j ∈ rs, n ≤ j → ¬ U j) (hd : distinct rs = true) (hrun : (importV thaw r gs c k).run C ⟨T, O⟩ = some p) :
    Brought Y μf μ1 C T (fun j => U j ∨ (thaw = true ∧ j ∈ rs)) A φ O k p fun φ' O' c' => VRel ⟨Y.toTrEnv, after Y μ1 n thaw⟩ (quiet μ1 φ' O') c' val := by
  unfold importV at hrun
  split at hrun
  · rename_i hp
    refine ⟨A, φ, O, c, hrun, ht.more fun j h => .inl h, GMono.refl _ _, fun _ h => h, ?_⟩
    cases he with
    | cell h =>
      cases h with
      | pure hp' hv => exact pure_transfer (X := Y) (μ := μ1) (μ' := quiet μ1 φ O) rfl (fun b => after_sub) hp hv
      | sl => simp [V.isPure] at hp
      | own => simp [V.isPure] at hp
    | @agg cs _ vals hc h =>
      have hp' : V.arePure cs = true := by simpa [V.isPure] using hp
      obtain ⟨hv, _⟩ := h.pures hp'
      simp only [VRel]
      exact ⟨cells_of_cellish hp' hc, _, rfl, pures_transfer (X := Y) (μ := μ1) (μ' := quiet μ1 φ O) rfl (fun b => after_sub) hp' hv⟩
  · cases he with
    | cell h =>
      cases h with
      | pure hp hv => rename_i hnp; exact absurd hp hnp
      | sl hr hes hg hl hv =>
        obtain ⟨A1, φ1, O1, c1, k1, k2, k3, k4, k5, k6⟩ := importCell_sound h1 ht ht.lo hgs (.sl hr hes hg hl hv) hU hrun
        exact ⟨A1, φ1, O1, c1, k1, k2, k3, k4, k5⟩
      | own hr hes hfz hg hl hp hv =>
        obtain ⟨A1, φ1, O1, c1, k1, k2, k3, k4, k5, k6⟩ := importCell_sound h1 ht ht.lo hgs (.own hr hes hfz hg hl hp hv) hU hrun
        exact ⟨A1, φ1, O1, c1, k1, k2, k3, k4, k5⟩
    | agg hc h =>
      obtain ⟨A1, φ1, O1, c1, k1, k2, k3, k4, k5, k6⟩ := importCells_sound h1 ht hgs h hU hd hrun
      refine ⟨A1, φ1, O1, _, k1, k2, k3, k4, ?_⟩
      simp only [VRel]
      exact ⟨k6 hc, _, rfl, k5⟩

theorem importVs_sound (h1 : Objs Y μ1) : ∀ {U : Nat → Prop} {A : Nat → Option Nat} {φ : Nat → Row} {O : Nat → Obj} {gs : List (Nat × Nat × Nat)} {cs : List V} {rs : List Nat} {vals : List Value} {r : Nat} {k : List V → Act} {p : V × St},
    Taken Y μf μ1 U A φ O → (∀ x ∈ gs, RefOk μ1 φ O x.1 x.2.1 x.2.2) → ExpVs Y μ1 n cs rs vals → (∀ j ∈ rs, n ≤ j → ¬ U j) → distinct rs = true → (importVs thaw r gs cs k).run C ⟨T, O⟩ = some p →
    Brought Y μf μ1 C T (fun j => U j ∨ (thaw = true ∧ j ∈ rs)) A φ O k p fun φ' O' cs' => VRels ⟨Y.toTrEnv, after Y μ1 n thaw⟩ (quiet μ1 φ' O') cs' vals := by
  intro U A φ O gs cs rs vals r k p ht hgs he hU hd hrun
  induction he generalizing U A φ O r k with
  | nil => exact ⟨A, φ, O, [], hrun, ht.more fun j h => .inl h, GMono.refl _ _, fun _ h => h, by simp [VRels]⟩
  | @cons c rs rs' val cs vals h hs ih =>
    obtain ⟨d1, d2, d3⟩ := distinct_append hd
    simp only [importVs] at hrun
    obtain ⟨A1, φ1, O1, c1, k1, k2, k3, k4, k5⟩ := importV_sound h1 ht hgs h (fun j hj => hU j (by simp [hj])) d1 hrun
    obtain ⟨A2, φ2, O2, cs2, m1, m2, m3, m4, m5⟩ := ih k2 (fun x hx => (hgs x hx).mono k3) (fun j hj hn hu => by
      rcases hu with hu | ⟨_, hu⟩
      · exact hU j (by simp [hj]) hn hu
      · exact d3 j hj hu) d2 k1
    refine ⟨A2, φ2, O2, c1 :: cs2, m1, m2.more fun j hj => ?_, k3.trans m3, fun r' h => m4 r' (k4 r' h), ?_⟩
    · rcases hj with (hj | ⟨e, hj⟩) | ⟨e, hj⟩
      · exact .inl hj
      · exact .inr ⟨e, by simp [hj]⟩
      · exact .inr ⟨e, by simp [hj]⟩
    · simp only [VRels]; exact ⟨VRel.mono (quiet_le m3) k5, m5⟩

theorem ExpVs.pures {cs : List V} {rs : List Nat} {vals : List Value} (h : ExpVs Y μ1 n cs rs vals) (hp : V.arePure cs = true) : VRels Y μ1 cs vals ∧ rs = [] := by
  induction h with
  | nil => simp [VRels]
  | cons h hs ih =>
    simp only [V.arePure, Bool.and_eq_true] at hp
    obtain ⟨i1, i2⟩ := ih hp.2
    cases h with
    | cell h =>
      cases h with
      | pure hp' hv => simp only [VRels]; exact ⟨⟨hv, i1⟩, by simpa using i2⟩
      | sl => simp [V.isPure] at hp
      | own => simp [V.isPure] at hp
    | @agg cs _ vals hc h =>
      have hp' : V.arePure cs = true := by simpa [V.isPure] using hp.1
      obtain ⟨hv, e⟩ := h.pures hp'
      subst e
      simp only [VRels, VRel]
      exact ⟨⟨⟨cells_of_cellish hp' hc, _, rfl, hv⟩, i1⟩, by simpa using i2⟩

end
end Go.AM
