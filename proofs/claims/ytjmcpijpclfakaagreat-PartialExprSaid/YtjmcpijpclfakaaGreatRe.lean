/-
  Texts of the proof, joined by program: PGenFn4, PGenFn5, PGenFn6, PGenFn7. Own work.
-/
import Derived.Test.YtjmcpijpclfakaaGreatRd
set_option linter.unusedSimpArgs false
set_option linter.unusedVariables false
set_option maxRecDepth 20000
namespace Go.AM
set_option maxHeartbeats 4000000 in
theorem oddn_4 {op var : Int} {val : Va} {nl : Bool} {q0 q1 q2 : Int} (hs : val.s.length < 4611686018427387904) (hm : modI q1 8 = 4)
    (hcp : Ev E 334 [(Ex.mk op var val nl []).v] ⟨(Ex.mk op var val nl []).norm.ov, []⟩) : ∃ v, Ev E 314 [(Ex.mk op var val nl []).v, .agg [vi q0, vi q1, vi q2]] ⟨v, []⟩ ∧ OddE (2) v := by
  have m40 := mod_ev (a := q2) (n := 40) (by decide)
  have m8 := mod_ev (a := q1) (n := 8) (by decide)
  rw [hm] at m8
  have hb := modI_bd (a := q2) (n := 40) (by decide) (by decide)
  have hn0 : 0 ≤ modI q2 40 := hb.1
  generalize modI q2 40 = n at m40 hn0
  have hov : (Ex.mk op var val nl []).norm.ov = .agg [vi op, vi var, vi val.t, vi val.n, .bool val.b, .str val.s, .nils] := by
    simp only [Ex.norm, Ex.norms, Ex.ov]; rfl
  rw [hov] at hcp
  rw [Ex.v_eq] at hcp ⊢
  cases nl <;> simp only [List.map_nil, lv, cond_true, cond_false] at hcp ⊢
  all_goals
    refine oddex ?_
    refine Ev.of_s (R := fun r => ∃ v, r = ⟨v, []⟩ ∧ OddE (2) v) E_314 (X_314 _) rfl ?_
    (conv => whnf); repeat' ((first | intro g | refine CallS.mk _ (hcp) ?_ | refine CallS.mk _ (m40) ?_ | refine CallS.mk _ (m8) ?_ | refine CallS.mk _ (rint_ev _) ?_ | refine st ?_ | (first | refine b1 ?_ ?_ | refine b2 ?_ ?_ | refine Br.mk ?_ ?_) <;> intro hc | exact rfl) <;> conv => whnf)
    exact ⟨_, rfl, oddE_own (l := [.mk 1 0 ⟨1, n, false, []⟩ false []]) (val := val) hs (by intro x hx; simp at hx; subst hx; exact .mk _ _ _ _ _ (by simp) (by simp)) (by simp [Ex.sizes, Ex.size])⟩
end Go.AM
set_option maxRecDepth 20000
namespace Go.AM
set_option maxHeartbeats 4000000 in
theorem oddn_5 {op var : Int} {val : Va} {nl : Bool} {q0 q1 q2 : Int} (hs : val.s.length < 4611686018427387904) (hm : modI q1 8 = 5)
    (hcp : Ev E 334 [(Ex.mk op var val nl []).v] ⟨(Ex.mk op var val nl []).norm.ov, []⟩) : ∃ v, Ev E 314 [(Ex.mk op var val nl []).v, .agg [vi q0, vi q1, vi q2]] ⟨v, []⟩ ∧ OddE (2) v := by
  have m40 := mod_ev (a := q2) (n := 40) (by decide)
  have m8 := mod_ev (a := q1) (n := 8) (by decide)
  rw [hm] at m8
  have hb := modI_bd (a := q2) (n := 40) (by decide) (by decide)
  have hn0 : 0 ≤ modI q2 40 := hb.1
  generalize modI q2 40 = n at m40 hn0
  have hov : (Ex.mk op var val nl []).norm.ov = .agg [vi op, vi var, vi val.t, vi val.n, .bool val.b, .str val.s, .nils] := by
    simp only [Ex.norm, Ex.norms, Ex.ov]; rfl
  rw [hov] at hcp
  rw [Ex.v_eq] at hcp ⊢
  cases nl <;> simp only [List.map_nil, lv, cond_true, cond_false] at hcp ⊢
  all_goals
    have hz0 : (IntKind.i64.wrap (Int.tdiv 0 2)).toNat ≤ 0 := by decide
    refine oddex ?_
    refine Ev.of_s (R := fun r => ∃ v, r = ⟨v, []⟩ ∧ OddE (2) v) E_314 (X_314 _) rfl ?_
    (conv => whnf); repeat' ((first | intro g | refine Need.mk (by decide) ?_ | refine Need.mk (⟨by decide, by decide⟩) ?_ | refine CallS.mk _ (hcp) ?_ | refine CallS.mk _ (m40) ?_ | refine CallS.mk _ (m8) ?_ | refine st ?_ | (first | refine b1 ?_ ?_ | refine b2 ?_ ?_ | refine Br.mk ?_ ?_) <;> intro hc | exact rfl) <;> conv => whnf)
    exact ⟨_, rfl, oddE_nil (val := val) hs (by decide)⟩
end Go.AM
set_option maxRecDepth 20000
namespace Go.AM
set_option maxHeartbeats 4000000 in
theorem oddn_6 {op var : Int} {val : Va} {nl : Bool} {q0 q1 q2 : Int} (hs : val.s.length < 4611686018427387904) (hm : modI q1 8 = 6)
    (hcp : Ev E 334 [(Ex.mk op var val nl []).v] ⟨(Ex.mk op var val nl []).norm.ov, []⟩) : ∃ v, Ev E 314 [(Ex.mk op var val nl []).v, .agg [vi q0, vi q1, vi q2]] ⟨v, []⟩ ∧ OddE (2) v := by
  have m40 := mod_ev (a := q2) (n := 40) (by decide)
  have m8 := mod_ev (a := q1) (n := 8) (by decide)
  rw [hm] at m8
  have hb := modI_bd (a := q2) (n := 40) (by decide) (by decide)
  have hn0 : 0 ≤ modI q2 40 := hb.1
  generalize modI q2 40 = n at m40 hn0
  have hov : (Ex.mk op var val nl []).norm.ov = .agg [vi op, vi var, vi val.t, vi val.n, .bool val.b, .str val.s, .nils] := by
    simp only [Ex.norm, Ex.norms, Ex.ov]; rfl
  rw [hov] at hcp
  rw [Ex.v_eq] at hcp ⊢
  cases nl <;> simp only [List.map_nil, lv, cond_true, cond_false] at hcp ⊢
  all_goals
    refine oddex ?_
    refine Ev.of_s (R := fun r => ∃ v, r = ⟨v, []⟩ ∧ OddE (2) v) E_314 (X_314 _) rfl ?_
    (conv => whnf); repeat' ((first | intro g | refine CallS.mk _ (hcp) ?_ | refine CallS.mk _ (m40) ?_ | refine CallS.mk _ (m8) ?_ | refine st ?_ | (first | refine b1 ?_ ?_ | refine b2 ?_ ?_ | refine Br.mk ?_ ?_) <;> intro hc | exact rfl) <;> conv => whnf)
    exact ⟨_, rfl, oddE_nil (val := ⟨n.tmod 5, n.tmod 2, decide (1 < n.tmod 4), []⟩) (by simp) (by decide)⟩
end Go.AM
set_option maxRecDepth 20000
namespace Go.AM
set_option maxHeartbeats 4000000 in
theorem oddn_7 {op var : Int} {val : Va} {nl : Bool} {q0 q1 q2 : Int} (hs : val.s.length < 4611686018427387904) (hm : modI q1 8 = 7)
    (hcp : Ev E 334 [(Ex.mk op var val nl []).v] ⟨(Ex.mk op var val nl []).norm.ov, []⟩) : ∃ v, Ev E 314 [(Ex.mk op var val nl []).v, .agg [vi q0, vi q1, vi q2]] ⟨v, []⟩ ∧ OddE (64 * (1 + 1)) v := by
  have m40 := mod_ev (a := q2) (n := 40) (by decide)
  have m8 := mod_ev (a := q1) (n := 8) (by decide)
  rw [hm] at m8
  have hb := modI_bd (a := q2) (n := 40) (by decide) (by decide)
  have hn0 : 0 ≤ modI q2 40 := hb.1
  generalize modI q2 40 = n at m40 hn0
  have b5 : 0 ≤ n.tmod 5 ∧ n.tmod 5 < 5 := rem_bd hn0 (k := 5) (by decide)
  obtain ⟨m, hm2⟩ : ∃ m : Nat, 2 + n.tmod 5 = (m : Int) := ⟨(2 + n.tmod 5).toNat, by omega⟩
  have hw : IntKind.i64.wrap (2 + n.tmod 5) = (m : Int) := (wrap64 (by omega) (by omega)).trans hm2
  have hm6 : m ≤ 6 := by omega
  have hmp : 0 < m := by omega
  have hov : (Ex.mk op var val nl []).norm.ov = .agg [vi op, vi var, vi val.t, vi val.n, .bool val.b, .str val.s, .nils] := by
    simp only [Ex.norm, Ex.norms, Ex.ov]; rfl
  rw [hov] at hcp
  rw [Ex.v_eq] at hcp ⊢
  have hcur0 : (Ex.mk op var val true []).v = .agg [vi op, vi var, vi val.t, vi val.n, .bool val.b, .str val.s, .nils] := by
    rw [Ex.v_eq]; rfl
  obtain ⟨C, hC⟩ : ∃ C, C = Ex.mk op var val true [] := ⟨_, rfl⟩
  have hCs : C.size = 1 := by rw [hC]; simp [Ex.size, Ex.sizes]
  have hCf : C.Fit := by rw [hC]; exact .mk _ _ _ _ _ hs (by simp)
  rw [← hC] at hcur0
  have hCc := rcopy_ev _ C (Nat.le_refl _) (by rw [hCs]; omega)
  rw [hcur0] at hCc
  have hCi := fun r k => norm_impF C r k
  cases nl <;> simp only [List.map_nil, lv, cond_true, cond_false] at hcp ⊢
  all_goals
    refine oddex ?_
    refine Ev.of_s (R := fun r => ∃ v, r = ⟨v, []⟩ ∧ OddE (64 * (1 + 1)) v) E_314 (X_314 _) rfl ?_
    (conv => whnf); repeat' ((first | intro g | refine CallS.mk _ (hcp) ?_ | refine CallS.mk _ (m40) ?_ | refine CallS.mk _ (m8) ?_ | refine st ?_ | (first | refine b1 ?_ ?_ | refine b2 ?_ ?_ | refine Br.mk ?_ ?_) <;> intro hc | exact rfl) <;> conv => whnf)
    rename_i g48 g64 g80
    obtain ⟨g96, hg96⟩ : ∃ x, x = g := ⟨_, rfl⟩
    rw [← hg96]; clear hg96
    refine LoopS.by (fun ((j, st) : Nat × Option (Ex × Ex × Nat)) => ⟨[(4, .ptr 80 g80 0 0), (5, .ptr 96 g96 0 0), (7, vi n), (8, vnat j)],
        match st with
        | none => [(80, ⟨g80, 7, false, false, some [.agg [vi 0, vi 0, vi 0, vi 0, .bool false, .str [], .lit 7 []]]⟩), (96, ⟨g96, 7, false, false, some [.agg [vi op, vi var, vi val.t, vi val.n, .bool val.b, .str val.s, .nils]]⟩)]
        | some (a, b, g2) => [(80, ⟨g80, 7, false, false, some [.agg [vi 0, vi 0, vi 0, vi 0, .bool false, .str [], .lit 7 []]]⟩), (96, ⟨g96, 7, false, false, some [.agg [vi 4, vi 0, vi 0, vi 0, .bool false, .str [], .sl 2112 g2 0 2]]⟩), (2112, ⟨g2, 7, true, false, some [a.v, b.v]⟩)]⟩)
      (fun (j, st) => j ≤ m ∧ (st = none → j = 0) ∧ ∀ a b g2, st = some (a, b, g2) → 0 < j ∧ a.Fit ∧ b.Fit ∧ a.size + b.size + 2 ≤ 2 ^ j * (1 + 1)) (fun (j, _) => m - j) (0, none) (by (refine ⟨?_, ?_⟩ <;> repeat' (first | exact True.intro | refine ai ?_ | refine And.intro ?_ ?_))) ⟨by omega, by simp, by simp⟩ ?_
    rintro ⟨j, st⟩ ⟨hj, hst0, hst1⟩
    try dsimp only at hj hst0 hst1
    cases st with
    | none =>
      obtain rfl := hst0 rfl
      have hjm : ((0 : Nat) : Int) < IntKind.i64.wrap (2 + n.tmod 5) := by rw [hw]; omega
      obtain ⟨a2, b2, c2, d2, e2, f2, hoo⟩ := C.oform
      rcases hoo with ⟨ho, hn⟩ | ⟨zs, hz9, ho, hn⟩
      all_goals
        rw [ho] at hCc
        (conv => whnf); repeat' ((first | intro g | refine CallS.mk _ (hCc) ?_ | refine st ?_ | (first | refine b1 ?_ ?_ | refine b2 ?_ ?_ | refine Br.mk ?_ ?_) <;> intro hc | exact rfl) <;> conv => whnf)
        refine NxtS.mk (1, some (C, C.norm, g)) (by first | omega | (dsimp only; omega)) ⟨by omega, by simp, ?_⟩ (by simp only [hcur0, hn]; (refine ⟨?_, ?_⟩ <;> repeat' (first | exact True.intro | refine ai ?_ | refine And.intro ?_ ?_)))
        intro a b g2 h
        simp only [Option.some.injEq, Prod.mk.injEq] at h
        obtain ⟨rfl, rfl, _⟩ := h
        refine ⟨by omega, hCf, norm_fit hCf, ?_⟩
        rw [Ex.norm_size, hCs]
        omega
    | some p =>
      obtain ⟨a, b, g2⟩ := p
      obtain ⟨hj0, hfa, hfb, hab⟩ := hst1 a b g2 rfl
      have hpab := apure2 a.pure b.pure
      by_cases hlt : j < m
      · have hjm : ((j : Nat) : Int) < IntKind.i64.wrap (2 + n.tmod 5) := by rw [hw]; omega
        have hpow : 2 ^ j ≤ 32 := by
          have : j ≤ 5 := by omega
          exact Nat.le_trans (Nat.pow_le_pow_right (by decide) this) (by decide)
        have hab2 : a.size + b.size + 2 ≤ 32 * (1 + 1) := Nat.le_trans hab (Nat.mul_le_mul_right _ hpow)
        have hpow2 : 2 ^ (j + 1) = 2 * 2 ^ j := by rw [Nat.pow_succ]; omega
        obtain ⟨D, hD⟩ : ∃ D, D = Ex.mk 4 0 zeroVa false [a, b] := ⟨_, rfl⟩
        have hDs : D.size = 1 + (a.size + b.size) := by rw [hD]; simp [Ex.size, Ex.sizes]
        have hDf : D.Fit := by rw [hD]; exact .mk _ _ _ _ _ (by simp [zeroVa]) (by intro x hx; simp at hx; rcases hx with rfl | rfl; exact hfa; exact hfb)
        have hDv : D.v = .agg [vi 4, vi 0, vi 0, vi 0, .bool false, .str [], .lit 7 [a.v, b.v]] := by rw [hD, Ex.v_eq]; rfl
        have hDc := rcopy_ev _ D (Nat.le_refl _) (by rw [hDs]; omega)
        rw [hDv] at hDc
        obtain ⟨a2, b2, c2, d2, e2, f2, hoo⟩ := D.oform
        rcases hoo with ⟨ho, hn⟩ | ⟨zs, hz9, ho, hn⟩
        all_goals
          rw [ho] at hDc
          (conv => whnf); repeat' ((first | intro g | refine Need.mk (⟨rfl, rfl, by decide, hpab⟩) ?_ | refine Need.mk (hpab) ?_ | refine CallS.mk _ (hDc) ?_ | refine st ?_ | (first | refine b1 ?_ ?_ | refine b2 ?_ ?_ | refine Br.mk ?_ ?_) <;> intro hc | exact rfl) <;> conv => whnf)
          refine NxtS.mk (j + 1, some (D, D.norm, g)) (by first | omega | (dsimp only; omega)) ⟨by omega, by simp, ?_⟩ (by simp only [hDv, hn]; (refine ⟨?_, ?_⟩ <;> repeat' (first | exact True.intro | refine ai ?_ | refine And.intro ?_ ?_)))
          intro a' b' g2' h
          simp only [Option.some.injEq, Prod.mk.injEq] at h
          obtain ⟨rfl, rfl, _⟩ := h
          refine ⟨by omega, hDf, norm_fit hDf, ?_⟩
          rw [Ex.norm_size, hDs, hpow2, Nat.mul_assoc]
          omega
      · obtain rfl : j = m := by omega
        have hjm : ¬ ((j : Nat) : Int) < IntKind.i64.wrap (2 + n.tmod 5) := by rw [hw]; omega
        have hpow : 2 ^ j ≤ 64 := Nat.le_trans (Nat.pow_le_pow_right (by decide) hm6) (by decide)
        have hab2 : a.size + b.size + 2 ≤ 64 * (1 + 1) := Nat.le_trans hab (Nat.mul_le_mul_right _ hpow)
        have hfin := oddE_own (B := 64 * (1 + 1)) (op := 4) (var := 0) (val := zeroVa) (l := [a, b]) (by simp [zeroVa]) (by intro x hx; simp at hx; rcases hx with rfl | rfl; exact hfa; exact hfb) (by simp [Ex.sizes]; omega)
        (conv => whnf); repeat' ((first | intro g | refine Need.mk (⟨by decide, hpab⟩) ?_ | refine Need.mk (hpab) ?_ | refine st ?_ | (first | refine b1 ?_ ?_ | refine b2 ?_ ?_ | refine Br.mk ?_ ?_) <;> intro hc | exact rfl) <;> conv => whnf)
        exact ⟨_, rfl, hfin⟩
end Go.AM
