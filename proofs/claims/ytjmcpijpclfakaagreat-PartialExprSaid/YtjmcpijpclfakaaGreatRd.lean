/-
  Texts of the proof, joined by program: PGenF, PGenFn0, PGenFn1, PGenFn2, PGenFn3. Own work.
-/
import Derived.Test.YtjmcpijpclfakaaGreatRa
import Derived.Test.YtjmcpijpclfakaaGreatB
import Derived.Test.YtjmcpijpclfakaaGreatKa
set_option linter.unusedSimpArgs false
set_option linter.unusedVariables false
set_option maxRecDepth 20000
namespace Go.AM
def OddR (e : Ex) (r : V) : Prop := r = e.v ∨ MR e.v r
theorem odd_imp {e : Ex} {v : V} (h : OddR e v) (r : Nat) (k : V → Act2) : importRes2 false r [] v k = k e.v := by
  rcases h with rfl | ⟨a, b, c, d, x, f, ys, hv, rfl | rfl⟩
  · simp only [importRes2, e.pure, cond_true]
  · rw [hv]; rfl
  · rw [hv]; rfl
mutual
theorem Ex.norm_size : ∀ e : Ex, e.norm.size = e.size
  | .mk op var val nl l => by simp only [Ex.norm, Ex.size, Ex.norms_size l]
theorem Ex.norms_size : ∀ l : List Ex, Ex.sizes (Ex.norms l) = Ex.sizes l
  | [] => rfl
  | e :: l => by simp only [Ex.norms, Ex.sizes, Ex.norm_size e, Ex.norms_size l]
end
theorem norm_fit : ∀ {e : Ex}, e.Fit → e.norm.Fit := by
  intro e h
  induction h with
  | mk op var val nl l hs hm ih =>
    simp only [Ex.norm, Ex.norms_eq]
    refine .mk _ _ _ _ _ hs ?_
    intro x hx
    obtain ⟨y, hy, rfl⟩ := List.mem_map.1 hx
    exact ih y hy
def OddE (B : Nat) (v : V) : Prop := ∃ e : Ex, OddR e v ∧ e.Fit ∧ e.size ≤ B
theorem OddE.mono {B C : Nat} {v : V} (h : OddE B v) (hbc : B ≤ C) : OddE C v := by
  obtain ⟨e, h1, h2, h3⟩ := h
  exact ⟨e, h1, h2, Nat.le_trans h3 hbc⟩
theorem oddex {args : List V} {B : Nat} (h : ∃ r, Ev E 314 args r ∧ ∃ v, r = ⟨v, []⟩ ∧ OddE B v) : ∃ v, Ev E 314 args ⟨v, []⟩ ∧ OddE B v := by
  obtain ⟨r, h1, v, rfl, h2⟩ := h
  exact ⟨v, h1, h2⟩
theorem oddE_nil {op var : Int} {val : Va} {B : Nat} (hs : val.s.length < 4611686018427387904) (hB : 1 ≤ B) : OddE B (.agg [vi op, vi var, vi val.t, vi val.n, .bool val.b, .str val.s, .nils]) :=
  ⟨.mk op var val true [], .inl (by rw [Ex.v_eq]; rfl), .mk _ _ _ _ _ hs (by simp), by simp [Ex.size, Ex.sizes]; exact hB⟩
theorem oddE_own {op var : Int} {val : Va} {l : List Ex} {B : Nat} (hs : val.s.length < 4611686018427387904) (hl : ∀ x ∈ l, x.Fit) (hB : 1 + Ex.sizes l ≤ B) : OddE B (.agg [vi op, vi var, vi val.t, vi val.n, .bool val.b, .str val.s, .own 7 (l.map Ex.v)]) := by
  refine ⟨.mk op var val false l, .inr ⟨op, var, val.t, val.n, val.b, val.s, l.map Ex.v, ?_, .inr rfl⟩, .mk _ _ _ _ _ hs hl, by simp only [Ex.size]; exact hB⟩
  rw [Ex.v_eq]
  cases l <;> rfl
theorem norm_impF (e : Ex) (r : Nat) (k : V → Act2) : importRes2 false r [] e.norm.ov k = k e.norm.v := by
  obtain ⟨a, b, c, d, e', f, ⟨h1, h2⟩ | ⟨ys, _, h1, h2⟩⟩ := e.oform
  · rw [h1, h2]; rfl
  · rw [h1, h2]; rfl
def strs5 : List Str := [[116, 114, 101, 101], [97, 34], [120, 10], [97, 98, 99, 100, 101, 102, 103, 104, 105, 106, 107, 108, 109, 110, 111, 112, 113, 114, 115, 116, 117, 118, 119, 120], [97, 98, 99, 100, 101, 102, 103, 104, 105, 106, 107, 108, 109, 110, 111, 112, 113, 114, 115, 116, 117, 118, 119, 120, 121]]
theorem rem_bd {n : Int} (h : 0 ≤ n) {k : Nat} (hk : 0 < k) : 0 ≤ n.tmod k ∧ n.tmod k < k := ⟨Int.tmod_nonneg _ h, Int.tmod_lt_of_pos _ (by omega)⟩
theorem num3 {n : Int} (h : 0 ≤ n) (a b c : Int) : ∃ x : Int, ([a, b, c] : List Int)[(n.tmod 3).toNat]? = some x := by
  have : 0 ≤ n.tmod 3 ∧ n.tmod 3 < 3 := rem_bd h (k := 3) (by decide)
  exact ⟨_, get_lt (by simp; omega)⟩
theorem str5 {n : Int} (h : 0 ≤ n) : ∃ s : Str, strs5[(n.tmod 5).toNat]? = some s ∧ s.length < 100 := by
  have : 0 ≤ n.tmod 5 ∧ n.tmod 5 < 5 := rem_bd h (k := 5) (by decide)
  have hall : ∀ x ∈ strs5, x.length < 100 := by decide
  have hl : strs5.length = 5 := rfl
  exact ⟨_, get_lt (by omega), hall _ (List.getElem_mem _)⟩
end Go.AM
set_option maxRecDepth 20000
namespace Go.AM
set_option maxHeartbeats 4000000 in
theorem oddn_0 {op var : Int} {val : Va} {nl : Bool} {q0 q1 q2 : Int} (hs : val.s.length < 4611686018427387904) (hm : modI q1 8 = 0)
    (hcp : Ev E 334 [(Ex.mk op var val nl []).v] ⟨(Ex.mk op var val nl []).norm.ov, []⟩) : ∃ v, Ev E 314 [(Ex.mk op var val nl []).v, .agg [vi q0, vi q1, vi q2]] ⟨v, []⟩ ∧ OddE (2) v := by
  have m40 := mod_ev (a := q2) (n := 40) (by decide)
  have m8 := mod_ev (a := q1) (n := 8) (by decide)
  rw [hm] at m8
  have hb := modI_bd (a := q2) (n := 40) (by decide) (by decide)
  have hn0 : 0 ≤ modI q2 40 := hb.1
  generalize modI q2 40 = n at m40 hn0
  have hov : (Ex.mk op var val nl []).norm.ov = .agg [vi op, vi var, vi val.t, vi val.n, .bool val.b, .str val.s, .nils] := by
    simp only [Ex.norm, Ex.norms, Ex.ov]; rfl
  rw [hov] at hcp
  rw [Ex.v_eq] at hcp ⊢
  cases nl <;> simp only [List.map_nil, lv, cond_true, cond_false] at hcp ⊢
  all_goals
    refine oddex ?_
    refine Ev.of_s (R := fun r => ∃ v, r = ⟨v, []⟩ ∧ OddE (2) v) E_314 (X_314 _) rfl ?_
    (conv => whnf); repeat' ((first | intro g | refine CallS.mk _ (hcp) ?_ | refine CallS.mk _ (m40) ?_ | refine CallS.mk _ (m8) ?_ | refine st ?_ | (first | refine b1 ?_ ?_ | refine b2 ?_ ?_ | refine Br.mk ?_ ?_) <;> intro hc | exact rfl) <;> conv => whnf)
    exact ⟨_, rfl, oddE_nil (val := val) hs (by decide)⟩
end Go.AM
set_option maxRecDepth 20000
namespace Go.AM
set_option maxHeartbeats 4000000 in
theorem oddn_1 {op var : Int} {val : Va} {nl : Bool} {q0 q1 q2 : Int} (hs : val.s.length < 4611686018427387904) (hm : modI q1 8 = 1)
    (hcp : Ev E 334 [(Ex.mk op var val nl []).v] ⟨(Ex.mk op var val nl []).norm.ov, []⟩) : ∃ v, Ev E 314 [(Ex.mk op var val nl []).v, .agg [vi q0, vi q1, vi q2]] ⟨v, []⟩ ∧ OddE (2) v := by
  have m40 := mod_ev (a := q2) (n := 40) (by decide)
  have m8 := mod_ev (a := q1) (n := 8) (by decide)
  rw [hm] at m8
  have hb := modI_bd (a := q2) (n := 40) (by decide) (by decide)
  have hn0 : 0 ≤ modI q2 40 := hb.1
  generalize modI q2 40 = n at m40 hn0
  have hov : (Ex.mk op var val nl []).norm.ov = .agg [vi op, vi var, vi val.t, vi val.n, .bool val.b, .str val.s, .nils] := by
    simp only [Ex.norm, Ex.norms, Ex.ov]; rfl
  rw [hov] at hcp
  rw [Ex.v_eq] at hcp ⊢
  cases nl <;> simp only [List.map_nil, lv, cond_true, cond_false] at hcp ⊢
  all_goals
    refine oddex ?_
    refine Ev.of_s (R := fun r => ∃ v, r = ⟨v, []⟩ ∧ OddE (2) v) E_314 (X_314 _) rfl ?_
    (conv => whnf); repeat' ((first | intro g | refine CallS.mk _ (hcp) ?_ | refine CallS.mk _ (m40) ?_ | refine CallS.mk _ (m8) ?_ | refine st ?_ | (first | refine b1 ?_ ?_ | refine b2 ?_ ?_ | refine Br.mk ?_ ?_) <;> intro hc | exact rfl) <;> conv => whnf)
    exact ⟨_, rfl, oddE_nil (val := val) hs (by decide)⟩
end Go.AM
set_option maxRecDepth 20000
namespace Go.AM
set_option maxHeartbeats 4000000 in
theorem oddn_2 {op var : Int} {val : Va} {nl : Bool} {q0 q1 q2 : Int} (hs : val.s.length < 4611686018427387904) (hm : modI q1 8 = 2)
    (hcp : Ev E 334 [(Ex.mk op var val nl []).v] ⟨(Ex.mk op var val nl []).norm.ov, []⟩) : ∃ v, Ev E 314 [(Ex.mk op var val nl []).v, .agg [vi q0, vi q1, vi q2]] ⟨v, []⟩ ∧ OddE (2) v := by
  have m40 := mod_ev (a := q2) (n := 40) (by decide)
  have m8 := mod_ev (a := q1) (n := 8) (by decide)
  rw [hm] at m8
  have hb := modI_bd (a := q2) (n := 40) (by decide) (by decide)
  have hn0 : 0 ≤ modI q2 40 := hb.1
  generalize modI q2 40 = n at m40 hn0
  have hov : (Ex.mk op var val nl []).norm.ov = .agg [vi op, vi var, vi val.t, vi val.n, .bool val.b, .str val.s, .nils] := by
    simp only [Ex.norm, Ex.norms, Ex.ov]; rfl
  rw [hov] at hcp
  rw [Ex.v_eq] at hcp ⊢
  cases nl <;> simp only [List.map_nil, lv, cond_true, cond_false] at hcp ⊢
  all_goals
    have b3 : 0 ≤ n.tmod 3 ∧ n.tmod 3 < 3 := rem_bd hn0 (k := 3) (by decide)
    have h30 : 0 ≤ n.tmod 3 := b3.1
    have h33 : n.tmod 3 < 3 := b3.2
    obtain ⟨x3, hx3⟩ := num3 hn0 n (IntKind.i64.wrap (1073741824 + n.tmod 2)) (IntKind.i64.wrap (-1073741824 - n.tmod 2))
    refine oddex ?_
    refine Ev.of_s (R := fun r => ∃ v, r = ⟨v, []⟩ ∧ OddE (2) v) E_314 (X_314 _) rfl ?_
    (conv => whnf); repeat' ((first | intro g | refine Wit.mk _ (map_get hx3 (Int.toNat_of_nonneg h30).symm) ?_ | refine CallS.mk _ (hcp) ?_ | refine CallS.mk _ (m40) ?_ | refine CallS.mk _ (m8) ?_ | refine CallS.mk _ (rint_ev _) ?_ | refine st ?_ | (first | refine b1 ?_ ?_ | refine b2 ?_ ?_ | refine Br.mk ?_ ?_) <;> intro hc | exact rfl) <;> conv => whnf)
    exact ⟨_, rfl, oddE_nil (val := ⟨1, x3, false, []⟩) (by simp) (by decide)⟩
end Go.AM
set_option maxRecDepth 20000
namespace Go.AM
set_option maxHeartbeats 4000000 in
theorem oddn_3 {op var : Int} {val : Va} {nl : Bool} {q0 q1 q2 : Int} (hs : val.s.length < 4611686018427387904) (hm : modI q1 8 = 3)
    (hcp : Ev E 334 [(Ex.mk op var val nl []).v] ⟨(Ex.mk op var val nl []).norm.ov, []⟩) : ∃ v, Ev E 314 [(Ex.mk op var val nl []).v, .agg [vi q0, vi q1, vi q2]] ⟨v, []⟩ ∧ OddE (2) v := by
  have m40 := mod_ev (a := q2) (n := 40) (by decide)
  have m8 := mod_ev (a := q1) (n := 8) (by decide)
  rw [hm] at m8
  have hb := modI_bd (a := q2) (n := 40) (by decide) (by decide)
  have hn0 : 0 ≤ modI q2 40 := hb.1
  generalize modI q2 40 = n at m40 hn0
  have hov : (Ex.mk op var val nl []).norm.ov = .agg [vi op, vi var, vi val.t, vi val.n, .bool val.b, .str val.s, .nils] := by
    simp only [Ex.norm, Ex.norms, Ex.ov]; rfl
  rw [hov] at hcp
  rw [Ex.v_eq] at hcp ⊢
  cases nl <;> simp only [List.map_nil, lv, cond_true, cond_false] at hcp ⊢
  all_goals
    have b5 : 0 ≤ n.tmod 5 ∧ n.tmod 5 < 5 := rem_bd hn0 (k := 5) (by decide)
    have h50 : 0 ≤ n.tmod 5 := b5.1
    have h55 : n.tmod 5 < 5 := b5.2
    obtain ⟨s5, hs5, hl5⟩ := str5 hn0
    refine oddex ?_
    refine Ev.of_s (R := fun r => ∃ v, r = ⟨v, []⟩ ∧ OddE (2) v) E_314 (X_314 _) rfl ?_
    (conv => whnf); repeat' ((first | intro g | refine Wit.mk _ (map_get hs5 (Int.toNat_of_nonneg h50).symm) ?_ | refine CallS.mk _ (hcp) ?_ | refine CallS.mk _ (m40) ?_ | refine CallS.mk _ (m8) ?_ | refine CallS.mk _ (rstr_ev _) ?_ | refine st ?_ | (first | refine b1 ?_ ?_ | refine b2 ?_ ?_ | refine Br.mk ?_ ?_) <;> intro hc | exact rfl) <;> conv => whnf)
    exact ⟨_, rfl, oddE_nil (val := ⟨3, 0, false, s5⟩) (by dsimp only; omega) (by decide)⟩
end Go.AM
