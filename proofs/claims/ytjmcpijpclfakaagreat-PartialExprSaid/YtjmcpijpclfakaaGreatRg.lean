/-
  Texts of the proof, joined by program: PGenFc4, PGenFc5, PGenFc6, PGenFc7, PGenFr, PGenH. Own work.
-/
import Derived.Test.YtjmcpijpclfakaaGreatRd
import Derived.Test.YtjmcpijpclfakaaGreatRe
import Derived.Test.YtjmcpijpclfakaaGreatRf
set_option linter.unusedSimpArgs false
set_option linter.unusedVariables false
set_option maxRecDepth 20000
namespace Go.AM
set_option maxHeartbeats 4000000 in
theorem oddc_4 {op var : Int} {val : Va} {nl : Bool} {q0 q1 q2 : Int} {l : List Ex} (hne : 0 < l.length) (hlen : l.length < 1000000) (hfit : ∀ x ∈ l, x.Fit) (hz : modI q0 3 = 0) (hs : val.s.length < 4611686018427387904) (hm : modI q1 8 = 4)
    (hcp : Ev E 334 [(Ex.mk op var val nl l).v] ⟨(Ex.mk op var val nl l).norm.ov, []⟩) : ∃ v, Ev E 314 [(Ex.mk op var val nl l).v, .agg [vi q0, vi q1, vi q2]] ⟨v, []⟩ ∧ OddE (2 + Ex.sizes l) v := by
  have m40 := mod_ev (a := q2) (n := 40) (by decide)
  have m8 := mod_ev (a := q1) (n := 8) (by decide)
  rw [hm] at m8
  have hb := modI_bd (a := q2) (n := 40) (by decide) (by decide)
  have hn0 : 0 ≤ modI q2 40 := hb.1
  generalize modI q2 40 = n at m40 hn0
  have m3 := mod_ev (a := q0) (n := 3) (by decide)
  rw [hz] at m3
  have hlv : lv nl (l.map Ex.v) = .lit 7 (l.map Ex.v) := by
    cases l with
    | nil => simp at hne
    | cons y ys => rfl
  have hov : (Ex.mk op var val nl l).norm.ov = .agg [vi op, vi var, vi val.t, vi val.n, .bool val.b, .str val.s, .own 7 ((l.map Ex.norm).map Ex.v)] := by
    cases l with
    | nil => simp at hne
    | cons y ys => simp only [Ex.norm, Ex.norms_eq, Ex.ov]; rfl
  have hnf : ∀ x ∈ l.map Ex.norm, x.Fit := fun x hx => by
    obtain ⟨y, hy, rfl⟩ := List.mem_map.1 hx
    exact norm_fit (hfit y hy)
  have hns : Ex.sizes (l.map Ex.norm) = Ex.sizes l := by rw [← Ex.norms_eq]; exact Ex.norms_size l
  have hnl : (l.map Ex.norm).length = l.length := List.length_map ..
  generalize l.map Ex.norm = N at *
  have lmN : (N.map Ex.v).length = N.length := List.length_map ..
  have hpos : (0 : Int) < ((N.map Ex.v).length : Nat) := by omega
  rw [hov] at hcp
  rw [Ex.v_eq, hlv] at hcp ⊢
  refine oddex ?_
  refine Ev.of_s (R := fun r => ∃ v, r = ⟨v, []⟩ ∧ OddE (2 + Ex.sizes l) v) E_314 (X_314 _) rfl ?_
  (conv => whnf); repeat' ((first | intro g | refine Need.mk (Ex.pures _) ?_ | refine Need.mk (⟨Nat.le_of_eq (Nat.zero_add _), Ex.pures _⟩) ?_ | refine Need.mk (⟨by simp, arePure_append (Ex.pures N) rfl⟩) ?_ | refine CallS.mk _ (hcp) ?_ | refine CallS.mk _ (m40) ?_ | refine CallS.mk _ (m8) ?_ | refine CallS.mk _ (m3) ?_ | refine CallS.mk _ (rint_ev _) ?_ | refine st ?_ | (first | refine b1 ?_ ?_ | refine b2 ?_ ?_ | refine Br.mk ?_ ?_) <;> intro hc | exact rfl) <;> conv => whnf)
  have hfin := oddE_own (B := 2 + Ex.sizes l) (op := op) (var := var) (val := val) (l := N ++ [.mk 1 0 ⟨1, n, false, []⟩ false []]) hs (by intro x hx; rcases List.mem_append.1 hx with h | h; exact hnf x h; simp at h; subst h; exact .mk _ _ _ _ _ (by simp) (by simp)) (by rw [Ex.sizes_append]; simp [Ex.sizes, Ex.size]; omega)
  rw [List.map_append] at hfin
  exact ⟨_, rfl, hfin⟩
end Go.AM
set_option maxRecDepth 20000
namespace Go.AM
set_option maxHeartbeats 4000000 in
theorem oddc_5 {op var : Int} {val : Va} {nl : Bool} {q0 q1 q2 : Int} {l : List Ex} (hne : 0 < l.length) (hlen : l.length < 1000000) (hfit : ∀ x ∈ l, x.Fit) (hz : modI q0 3 = 0) (hs : val.s.length < 4611686018427387904) (hm : modI q1 8 = 5)
    (hcp : Ev E 334 [(Ex.mk op var val nl l).v] ⟨(Ex.mk op var val nl l).norm.ov, []⟩) : ∃ v, Ev E 314 [(Ex.mk op var val nl l).v, .agg [vi q0, vi q1, vi q2]] ⟨v, []⟩ ∧ OddE (2 + Ex.sizes l) v := by
  have m40 := mod_ev (a := q2) (n := 40) (by decide)
  have m8 := mod_ev (a := q1) (n := 8) (by decide)
  rw [hm] at m8
  have hb := modI_bd (a := q2) (n := 40) (by decide) (by decide)
  have hn0 : 0 ≤ modI q2 40 := hb.1
  generalize modI q2 40 = n at m40 hn0
  have m3 := mod_ev (a := q0) (n := 3) (by decide)
  rw [hz] at m3
  have hlv : lv nl (l.map Ex.v) = .lit 7 (l.map Ex.v) := by
    cases l with
    | nil => simp at hne
    | cons y ys => rfl
  have hov : (Ex.mk op var val nl l).norm.ov = .agg [vi op, vi var, vi val.t, vi val.n, .bool val.b, .str val.s, .own 7 ((l.map Ex.norm).map Ex.v)] := by
    cases l with
    | nil => simp at hne
    | cons y ys => simp only [Ex.norm, Ex.norms_eq, Ex.ov]; rfl
  have hnf : ∀ x ∈ l.map Ex.norm, x.Fit := fun x hx => by
    obtain ⟨y, hy, rfl⟩ := List.mem_map.1 hx
    exact norm_fit (hfit y hy)
  have hns : Ex.sizes (l.map Ex.norm) = Ex.sizes l := by rw [← Ex.norms_eq]; exact Ex.norms_size l
  have hnl : (l.map Ex.norm).length = l.length := List.length_map ..
  generalize l.map Ex.norm = N at *
  have lmN : (N.map Ex.v).length = N.length := List.length_map ..
  have hpos : (0 : Int) < ((N.map Ex.v).length : Nat) := by omega
  rw [hov] at hcp
  rw [Ex.v_eq, hlv] at hcp ⊢
  have hw : IntKind.i64.wrap ((((N.map Ex.v).length : Nat) : Int).tdiv 2) = ((N.length / 2 : Nat) : Int) := by rw [lmN, Int.tdiv_eq_ediv_of_nonneg (by omega)]; exact (wrap64 (by omega) (by omega)).trans (by omega)
  have hh0 : 0 ≤ IntKind.i64.wrap ((((N.map Ex.v).length : Nat) : Int).tdiv 2) := by rw [hw]; omega
  have hh1 : 0 + (IntKind.i64.wrap ((((N.map Ex.v).length : Nat) : Int).tdiv 2)).toNat ≤ (N.map Ex.v).length := by rw [hw]; omega
  have hh2 : 0 + 0 + ((IntKind.i64.wrap ((((N.map Ex.v).length : Nat) : Int).tdiv 2)).toNat - 0) ≤ (N.map Ex.v).length := by rw [hw]; omega
  have hh3 : V.arePure (window (N.map Ex.v) (0 + 0) ((IntKind.i64.wrap ((((N.map Ex.v).length : Nat) : Int).tdiv 2)).toNat - 0)) = true := arePure_win (Ex.pures N)
  have hwin : window (N.map Ex.v) (0 + 0) ((IntKind.i64.wrap ((((N.map Ex.v).length : Nat) : Int).tdiv 2)).toNat - 0) = (N.take (N.length / 2)).map Ex.v := by rw [hw]; simp [window]; omega
  refine oddex ?_
  refine Ev.of_s (R := fun r => ∃ v, r = ⟨v, []⟩ ∧ OddE (2 + Ex.sizes l) v) E_314 (X_314 _) rfl ?_
  (conv => whnf); repeat' ((first | intro g | refine Need.mk (Ex.pures _) ?_ | refine Need.mk (⟨Nat.le_of_eq (Nat.zero_add _), Ex.pures _⟩) ?_ | refine Need.mk (hh0) ?_ | refine Need.mk (⟨hh0, hh1⟩) ?_ | refine Need.mk (⟨hh2, hh3⟩) ?_ | refine Need.mk (⟨hh2, Ex.pures _⟩) ?_ | refine Wit.mk _ (hwin) ?_ | refine CallS.mk _ (hcp) ?_ | refine CallS.mk _ (m40) ?_ | refine CallS.mk _ (m8) ?_ | refine CallS.mk _ (m3) ?_ | refine st ?_ | (first | refine b1 ?_ ?_ | refine b2 ?_ ?_ | refine Br.mk ?_ ?_) <;> intro hc | exact rfl) <;> conv => whnf)
  have hfin := oddE_own (B := 2 + Ex.sizes l) (op := op) (var := var) (val := val) (l := N.take (N.length / 2)) hs (fun x hx => hnf x (List.mem_of_mem_take hx)) (by have := Ex.sizes_take_le N (N.length / 2); omega)
  exact ⟨_, rfl, hfin⟩
end Go.AM
set_option maxRecDepth 20000
namespace Go.AM
set_option maxHeartbeats 4000000 in
theorem oddc_6 {op var : Int} {val : Va} {nl : Bool} {q0 q1 q2 : Int} {l : List Ex} (hne : 0 < l.length) (hlen : l.length < 1000000) (hfit : ∀ x ∈ l, x.Fit) (hz : modI q0 3 = 0) (hs : val.s.length < 4611686018427387904) (hm : modI q1 8 = 6)
    (hcp : Ev E 334 [(Ex.mk op var val nl l).v] ⟨(Ex.mk op var val nl l).norm.ov, []⟩) : ∃ v, Ev E 314 [(Ex.mk op var val nl l).v, .agg [vi q0, vi q1, vi q2]] ⟨v, []⟩ ∧ OddE (2 + Ex.sizes l) v := by
  have m40 := mod_ev (a := q2) (n := 40) (by decide)
  have m8 := mod_ev (a := q1) (n := 8) (by decide)
  rw [hm] at m8
  have hb := modI_bd (a := q2) (n := 40) (by decide) (by decide)
  have hn0 : 0 ≤ modI q2 40 := hb.1
  generalize modI q2 40 = n at m40 hn0
  have m3 := mod_ev (a := q0) (n := 3) (by decide)
  rw [hz] at m3
  have hlv : lv nl (l.map Ex.v) = .lit 7 (l.map Ex.v) := by
    cases l with
    | nil => simp at hne
    | cons y ys => rfl
  have hov : (Ex.mk op var val nl l).norm.ov = .agg [vi op, vi var, vi val.t, vi val.n, .bool val.b, .str val.s, .own 7 ((l.map Ex.norm).map Ex.v)] := by
    cases l with
    | nil => simp at hne
    | cons y ys => simp only [Ex.norm, Ex.norms_eq, Ex.ov]; rfl
  have hnf : ∀ x ∈ l.map Ex.norm, x.Fit := fun x hx => by
    obtain ⟨y, hy, rfl⟩ := List.mem_map.1 hx
    exact norm_fit (hfit y hy)
  have hns : Ex.sizes (l.map Ex.norm) = Ex.sizes l := by rw [← Ex.norms_eq]; exact Ex.norms_size l
  have hnl : (l.map Ex.norm).length = l.length := List.length_map ..
  generalize l.map Ex.norm = N at *
  have lmN : (N.map Ex.v).length = N.length := List.length_map ..
  have hpos : (0 : Int) < ((N.map Ex.v).length : Nat) := by omega
  rw [hov] at hcp
  rw [Ex.v_eq, hlv] at hcp ⊢
  refine oddex ?_
  refine Ev.of_s (R := fun r => ∃ v, r = ⟨v, []⟩ ∧ OddE (2 + Ex.sizes l) v) E_314 (X_314 _) rfl ?_
  (conv => whnf); repeat' ((first | intro g | refine Need.mk (Ex.pures _) ?_ | refine Need.mk (⟨Nat.le_of_eq (Nat.zero_add _), Ex.pures _⟩) ?_ | refine CallS.mk _ (hcp) ?_ | refine CallS.mk _ (m40) ?_ | refine CallS.mk _ (m8) ?_ | refine CallS.mk _ (m3) ?_ | refine st ?_ | (first | refine b1 ?_ ?_ | refine b2 ?_ ?_ | refine Br.mk ?_ ?_) <;> intro hc | exact rfl) <;> conv => whnf)
  exact ⟨_, rfl, oddE_own (l := N) (val := ⟨n.tmod 5, n.tmod 2, decide (1 < n.tmod 4), []⟩) (by simp) hnf (by omega)⟩
end Go.AM
set_option maxRecDepth 20000
namespace Go.AM
set_option maxHeartbeats 4000000 in
theorem oddc_7 {op var : Int} {val : Va} {nl : Bool} {q0 q1 q2 : Int} {l : List Ex} (hne : 0 < l.length) (hlen : Ex.sizes l < 10000) (hfit : ∀ x ∈ l, x.Fit) (hz : modI q0 3 = 0) (hs : val.s.length < 4611686018427387904) (hm : modI q1 8 = 7)
    (hcp : Ev E 334 [(Ex.mk op var val nl l).v] ⟨(Ex.mk op var val nl l).norm.ov, []⟩) : ∃ v, Ev E 314 [(Ex.mk op var val nl l).v, .agg [vi q0, vi q1, vi q2]] ⟨v, []⟩ ∧ OddE (64 * ((1 + Ex.sizes l) + 1)) v := by
  have m40 := mod_ev (a := q2) (n := 40) (by decide)
  have m8 := mod_ev (a := q1) (n := 8) (by decide)
  rw [hm] at m8
  have hb := modI_bd (a := q2) (n := 40) (by decide) (by decide)
  have hn0 : 0 ≤ modI q2 40 := hb.1
  generalize modI q2 40 = n at m40 hn0
  have b5 : 0 ≤ n.tmod 5 ∧ n.tmod 5 < 5 := rem_bd hn0 (k := 5) (by decide)
  obtain ⟨m, hm2⟩ : ∃ m : Nat, 2 + n.tmod 5 = (m : Int) := ⟨(2 + n.tmod 5).toNat, by omega⟩
  have hw : IntKind.i64.wrap (2 + n.tmod 5) = (m : Int) := (wrap64 (by omega) (by omega)).trans hm2
  have hm6 : m ≤ 6 := by omega
  have hmp : 0 < m := by omega
  have m3 := mod_ev (a := q0) (n := 3) (by decide)
  rw [hz] at m3
  have hlv : lv nl (l.map Ex.v) = .lit 7 (l.map Ex.v) := by
    cases l with
    | nil => simp at hne
    | cons y ys => rfl
  have hov : (Ex.mk op var val nl l).norm.ov = .agg [vi op, vi var, vi val.t, vi val.n, .bool val.b, .str val.s, .own 7 ((l.map Ex.norm).map Ex.v)] := by
    cases l with
    | nil => simp at hne
    | cons y ys => simp only [Ex.norm, Ex.norms_eq, Ex.ov]; rfl
  have hnf : ∀ x ∈ l.map Ex.norm, x.Fit := fun x hx => by
    obtain ⟨y, hy, rfl⟩ := List.mem_map.1 hx
    exact norm_fit (hfit y hy)
  have hns : Ex.sizes (l.map Ex.norm) = Ex.sizes l := by rw [← Ex.norms_eq]; exact Ex.norms_size l
  have hnl : (l.map Ex.norm).length = l.length := List.length_map ..
  generalize l.map Ex.norm = N at *
  have hll := Ex.length_le l
  have lmN : (N.map Ex.v).length = N.length := List.length_map ..
  have hpos : (0 : Int) < ((N.map Ex.v).length : Nat) := by omega
  rw [hov] at hcp
  rw [Ex.v_eq, hlv] at hcp ⊢
  have hcur0 : (Ex.mk op var val false N).v = .agg [vi op, vi var, vi val.t, vi val.n, .bool val.b, .str val.s, .lit 7 (N.map Ex.v)] := by
    rw [Ex.v_eq]
    cases N <;> rfl
  obtain ⟨C, hC⟩ : ∃ C, C = Ex.mk op var val false N := ⟨_, rfl⟩
  have hCs : C.size = (1 + Ex.sizes l) := by rw [hC]; simp only [Ex.size]; omega
  have hCf : C.Fit := by rw [hC]; exact .mk _ _ _ _ _ hs hnf
  have hNne : N ≠ [] := by intro h; rw [h] at hnl; simp at hnl; omega
  rw [← hC] at hcur0
  have hCc := rcopy_ev _ C (Nat.le_refl _) (by rw [hCs]; omega)
  rw [hcur0] at hCc
  have hCi := fun r k => norm_impF C r k
  refine oddex ?_
  refine Ev.of_s (R := fun r => ∃ v, r = ⟨v, []⟩ ∧ OddE (64 * ((1 + Ex.sizes l) + 1)) v) E_314 (X_314 _) rfl ?_
  (conv => whnf); repeat' ((first | intro g | refine CallS.mk _ (hcp) ?_ | refine CallS.mk _ (m40) ?_ | refine CallS.mk _ (m8) ?_ | refine CallS.mk _ (m3) ?_ | refine st ?_ | (first | refine b1 ?_ ?_ | refine b2 ?_ ?_ | refine Br.mk ?_ ?_) <;> intro hc | exact rfl) <;> conv => whnf)
  rename_i g48 g64 g80 g182
  obtain ⟨g96, hg96⟩ : ∃ x, x = g := ⟨_, rfl⟩
  rw [← hg96]; clear hg96
  refine LoopS.by (fun ((j, st) : Nat × Option (Ex × Ex × Nat)) => ⟨[(4, .ptr 80 g80 0 0), (5, .ptr 96 g96 0 0), (7, vi n), (8, vnat j)],
      match st with
      | none => [(80, ⟨g80, 7, false, false, some [.agg [vi 0, vi 0, vi 0, vi 0, .bool false, .str [], .lit 7 []]]⟩), (96, ⟨g96, 7, false, false, some [.agg [vi op, vi var, vi val.t, vi val.n, .bool val.b, .str val.s, .sl 182 g182 0 N.length]]⟩), (182, ⟨g182, 7, true, false, some (N.map Ex.v)⟩)]
      | some (a, b, g2) => [(80, ⟨g80, 7, false, false, some [.agg [vi 0, vi 0, vi 0, vi 0, .bool false, .str [], .lit 7 []]]⟩), (96, ⟨g96, 7, false, false, some [.agg [vi 4, vi 0, vi 0, vi 0, .bool false, .str [], .sl 2112 g2 0 2]]⟩), (2112, ⟨g2, 7, true, false, some [a.v, b.v]⟩)]⟩)
    (fun (j, st) => j ≤ m ∧ (st = none → j = 0) ∧ ∀ a b g2, st = some (a, b, g2) → 0 < j ∧ a.Fit ∧ b.Fit ∧ a.size + b.size + 2 ≤ 2 ^ j * ((1 + Ex.sizes l) + 1)) (fun (j, _) => m - j) (0, none) (by (refine ⟨?_, ?_⟩ <;> repeat' (first | exact True.intro | refine ai ?_ | refine And.intro ?_ ?_))) ⟨by omega, by simp, by simp⟩ ?_
  rintro ⟨j, st⟩ ⟨hj, hst0, hst1⟩
  try dsimp only at hj hst0 hst1
  cases st with
  | none =>
    obtain rfl := hst0 rfl
    have hjm : ((0 : Nat) : Int) < IntKind.i64.wrap (2 + n.tmod 5) := by rw [hw]; omega
    have hle9 : 0 + N.length ≤ (N.map Ex.v).length := by omega
    have hle8 : 0 + (N.map Ex.v).length ≤ (N.map Ex.v).length := by omega
    obtain ⟨a2, b2, c2, d2, e2, f2, hoo⟩ := C.oform
    rcases hoo with ⟨ho, hn⟩ | ⟨zs, hz9, ho, hn⟩
    all_goals
      rw [ho] at hCc
      (conv => whnf); repeat' ((first | intro g | refine Need.mk (⟨rfl, rfl, hle9, Ex.pures N⟩) ?_ | refine Need.mk (⟨rfl, rfl, hle8, Ex.pures N⟩) ?_ | refine Need.mk (Ex.pures _) ?_ | refine CallS.mk _ (hCc) ?_ | refine st ?_ | (first | refine b1 ?_ ?_ | refine b2 ?_ ?_ | refine Br.mk ?_ ?_) <;> intro hc | exact rfl) <;> conv => whnf)
      refine NxtS.mk (1, some (C, C.norm, g)) (by first | omega | (dsimp only; omega)) ⟨by omega, by simp, ?_⟩ (by simp only [hcur0, hn]; (refine ⟨?_, ?_⟩ <;> repeat' (first | exact True.intro | refine ai ?_ | refine And.intro ?_ ?_)))
      intro a b g2 h
      simp only [Option.some.injEq, Prod.mk.injEq] at h
      obtain ⟨rfl, rfl, _⟩ := h
      refine ⟨by omega, hCf, norm_fit hCf, ?_⟩
      rw [Ex.norm_size, hCs]
      omega
  | some p =>
    obtain ⟨a, b, g2⟩ := p
    obtain ⟨hj0, hfa, hfb, hab⟩ := hst1 a b g2 rfl
    have hpab := apure2 a.pure b.pure
    by_cases hlt : j < m
    · have hjm : ((j : Nat) : Int) < IntKind.i64.wrap (2 + n.tmod 5) := by rw [hw]; omega
      have hpow : 2 ^ j ≤ 32 := by
        have : j ≤ 5 := by omega
        exact Nat.le_trans (Nat.pow_le_pow_right (by decide) this) (by decide)
      have hab2 : a.size + b.size + 2 ≤ 32 * ((1 + Ex.sizes l) + 1) := Nat.le_trans hab (Nat.mul_le_mul_right _ hpow)
      have hpow2 : 2 ^ (j + 1) = 2 * 2 ^ j := by rw [Nat.pow_succ]; omega
      obtain ⟨D, hD⟩ : ∃ D, D = Ex.mk 4 0 zeroVa false [a, b] := ⟨_, rfl⟩
      have hDs : D.size = 1 + (a.size + b.size) := by rw [hD]; simp [Ex.size, Ex.sizes]
      have hDf : D.Fit := by rw [hD]; exact .mk _ _ _ _ _ (by simp [zeroVa]) (by intro x hx; simp at hx; rcases hx with rfl | rfl; exact hfa; exact hfb)
      have hDv : D.v = .agg [vi 4, vi 0, vi 0, vi 0, .bool false, .str [], .lit 7 [a.v, b.v]] := by rw [hD, Ex.v_eq]; rfl
      have hDc := rcopy_ev _ D (Nat.le_refl _) (by rw [hDs]; omega)
      rw [hDv] at hDc
      obtain ⟨a2, b2, c2, d2, e2, f2, hoo⟩ := D.oform
      rcases hoo with ⟨ho, hn⟩ | ⟨zs, hz9, ho, hn⟩
      all_goals
        rw [ho] at hDc
        (conv => whnf); repeat' ((first | intro g | refine Need.mk (⟨rfl, rfl, by decide, hpab⟩) ?_ | refine Need.mk (hpab) ?_ | refine CallS.mk _ (hDc) ?_ | refine st ?_ | (first | refine b1 ?_ ?_ | refine b2 ?_ ?_ | refine Br.mk ?_ ?_) <;> intro hc | exact rfl) <;> conv => whnf)
        refine NxtS.mk (j + 1, some (D, D.norm, g)) (by first | omega | (dsimp only; omega)) ⟨by omega, by simp, ?_⟩ (by simp only [hDv, hn]; (refine ⟨?_, ?_⟩ <;> repeat' (first | exact True.intro | refine ai ?_ | refine And.intro ?_ ?_)))
        intro a' b' g2' h
        simp only [Option.some.injEq, Prod.mk.injEq] at h
        obtain ⟨rfl, rfl, _⟩ := h
        refine ⟨by omega, hDf, norm_fit hDf, ?_⟩
        rw [Ex.norm_size, hDs, hpow2, Nat.mul_assoc]
        omega
    · obtain rfl : j = m := by omega
      have hjm : ¬ ((j : Nat) : Int) < IntKind.i64.wrap (2 + n.tmod 5) := by rw [hw]; omega
      have hpow : 2 ^ j ≤ 64 := Nat.le_trans (Nat.pow_le_pow_right (by decide) hm6) (by decide)
      have hab2 : a.size + b.size + 2 ≤ 64 * ((1 + Ex.sizes l) + 1) := Nat.le_trans hab (Nat.mul_le_mul_right _ hpow)
      have hfin := oddE_own (B := 64 * ((1 + Ex.sizes l) + 1)) (op := 4) (var := 0) (val := zeroVa) (l := [a, b]) (by simp [zeroVa]) (by intro x hx; simp at hx; rcases hx with rfl | rfl; exact hfa; exact hfb) (by simp [Ex.sizes]; omega)
      (conv => whnf); repeat' ((first | intro g | refine Need.mk (⟨by decide, hpab⟩) ?_ | refine Need.mk (hpab) ?_ | refine st ?_ | (first | refine b1 ?_ ?_ | refine b2 ?_ ?_ | refine Br.mk ?_ ?_) <;> intro hc | exact rfl) <;> conv => whnf)
      exact ⟨_, rfl, hfin⟩
end Go.AM
set_option maxRecDepth 20000
namespace Go.AM
theorem sizes_set : ∀ {l : List Ex} {i : Nat} {x y : Ex}, l[i]? = some x → Ex.sizes (l.set i y) + x.size = Ex.sizes l + y.size
  | [], i, x, y, h => by simp at h
  | u :: l, 0, x, y, h => by
    simp at h; subst h
    simp only [List.set_cons_zero, Ex.sizes]; omega
  | u :: l, i + 1, x, y, h => by
    have h' : l[i]? = some x := by simpa using h
    have := sizes_set (y := y) h'
    simp only [List.set_cons_succ, Ex.sizes]; omega
theorem fit_set {l : List Ex} {i : Nat} {y : Ex} (h : ∀ x ∈ l, x.Fit) (hy : y.Fit) : ∀ x ∈ l.set i y, x.Fit := fun x hx => by
  rcases List.mem_or_eq_of_mem_set hx with h1 | rfl
  · exact h x h1
  · exact hy
set_option maxHeartbeats 4000000 in
theorem oddc_r {op var : Int} {val : Va} {nl : Bool} {q0 q1 q2 : Int} {l : List Ex} (hne : 0 < l.length) (hlen : Ex.sizes l < 10000) (hfit : ∀ x ∈ l, x.Fit) (hz : 0 < modI q0 3) (hs : val.s.length < 4611686018427387904)
    (hcp : Ev E 334 [(Ex.mk op var val nl l).v] ⟨(Ex.mk op var val nl l).norm.ov, []⟩)
    (ih : ∀ x ∈ l, ∀ q : Int, ∃ v, Ev E 314 [x.norm.v, .agg [vi q, vi q1, vi q2]] ⟨v, []⟩ ∧ OddE (100 * x.size + 100) v) : ∃ v, Ev E 314 [(Ex.mk op var val nl l).v, .agg [vi q0, vi q1, vi q2]] ⟨v, []⟩ ∧ OddE (100 * (1 + Ex.sizes l) + 100) v := by
  have hm4 : modesOf E 314 = [] := rfl
  have m3 := mod_ev (a := q0) (n := 3) (by decide)
  generalize modI q0 3 = m3v at m3 hz
  have hlv : lv nl (l.map Ex.v) = .lit 7 (l.map Ex.v) := by
    cases l with
    | nil => simp at hne
    | cons y ys => rfl
  have hov : (Ex.mk op var val nl l).norm.ov = .agg [vi op, vi var, vi val.t, vi val.n, .bool val.b, .str val.s, .own 7 ((l.map Ex.norm).map Ex.v)] := by
    cases l with
    | nil => simp at hne
    | cons y ys => simp only [Ex.norm, Ex.norms_eq, Ex.ov]; rfl
  have hnf : ∀ x ∈ l.map Ex.norm, x.Fit := fun x hx => by
    obtain ⟨y, hy, rfl⟩ := List.mem_map.1 hx
    exact norm_fit (hfit y hy)
  have hns : Ex.sizes (l.map Ex.norm) = Ex.sizes l := by rw [← Ex.norms_eq]; exact Ex.norms_size l
  have hnl : (l.map Ex.norm).length = l.length := List.length_map ..
  have ihN : ∀ x ∈ l.map Ex.norm, ∀ q : Int, ∃ v, Ev E 314 [x.v, .agg [vi q, vi q1, vi q2]] ⟨v, []⟩ ∧ OddE (100 * x.size + 100) v := fun x hx q => by
    obtain ⟨y, hy, rfl⟩ := List.mem_map.1 hx
    rw [Ex.norm_size]
    exact ih y hy q
  clear ih
  generalize l.map Ex.norm = N at *
  have hll := Ex.length_le l
  have lmN : (N.map Ex.v).length = N.length := List.length_map ..
  have hpos : (0 : Int) < ((N.map Ex.v).length : Nat) := by omega
  have mk := mod_ev (a := IntKind.i64.wrap (q0.tdiv 3)) (n := (((N.map Ex.v).length : Nat) : Int)) (by omega)
  have hb := modI_bd (a := IntKind.i64.wrap (q0.tdiv 3)) (n := (N.map Ex.v).length) (by omega) (by omega)
  obtain ⟨kk, hkk⟩ : ∃ kk : Nat, modI (IntKind.i64.wrap (q0.tdiv 3)) (((N.map Ex.v).length : Nat) : Int) = (kk : Int) := ⟨(modI (IntKind.i64.wrap (q0.tdiv 3)) (((N.map Ex.v).length : Nat) : Int)).toNat, by omega⟩
  rw [hkk] at mk hb
  have hk : kk < N.length := by omega
  obtain ⟨x, hx⟩ : ∃ x, N[kk]? = some x := ⟨_, get_lt hk⟩
  obtain ⟨v9, he9, e', hr', hf', hs'⟩ := ihN x (List.mem_of_getElem? hx) (IntKind.i64.wrap (q0.tdiv 9))
  have hi9 := fun r k => odd_imp hr' r k
  obtain ⟨a9, b9, c9, d9, e9, f9, M9, hv9, hp9⟩ := x.form3
  rw [hv9] at he9
  obtain ⟨a8, b8, c8, d8, e8, f8, M8, hv8, hM8⟩ := e'.form
  rw [hv8] at hi9
  have hkb : ((kk : Nat) : Int) < ((N.map Ex.v).length : Nat) := hb.2
  have hfin := oddE_own (B := 100 * (1 + Ex.sizes l) + 100) (op := op) (var := var) (val := val) (l := N.set kk e') hs (fit_set hnf hf') (by
    have h1 := sizes_set (y := e') hx
    have h2 := Ex.size_mem (List.mem_of_getElem? hx)
    omega)
  have hset : (N.set kk e').map Ex.v = (N.map Ex.v).set kk (.agg [vi a8, vi b8, vi c8, vi d8, .bool e8, .str f8, M8]) := by rw [List.map_set, hv8]
  rw [hset] at hfin
  have hNp : V.arePure ((N.map Ex.v).set kk (.agg [vi a8, vi b8, vi c8, vi d8, .bool e8, .str f8, M8])) = true := by rw [← hset]; exact Ex.pures _
  have hNl : ((N.map Ex.v).set kk (.agg [vi a8, vi b8, vi c8, vi d8, .bool e8, .str f8, M8])).length = N.length := by rw [List.length_set, lmN]
  rw [hov] at hcp
  rw [Ex.v_eq, hlv] at hcp ⊢
  refine oddex ?_
  refine Ev.of_s (R := fun r => ∃ v, r = ⟨v, []⟩ ∧ OddE (100 * (1 + Ex.sizes l) + 100) v) E_314 (X_314 _) rfl ?_
  have hle1 : 0 + (N.map Ex.v).length ≤ ((N.map Ex.v).set kk (.agg [vi a8, vi b8, vi c8, vi d8, .bool e8, .str f8, M8])).length := by rw [hNl]; omega
  rcases hM8 with rfl | ⟨us, rfl⟩
  all_goals
    (conv => whnf); repeat' ((first | intro g | refine Need.mk (Ex.pures _) ?_ | refine Need.mk (⟨hle1, hNp⟩) ?_ | refine Wit.mk _ (map_getE hx hv9 rfl) ?_ | refine CallS.mk _ (hcp) ?_ | refine CallS.mk _ (m3) ?_ | refine CallS.mk _ (mk) ?_ | refine st ?_ | (first | refine b1 ?_ ?_ | refine b2 ?_ ?_ | refine Br.mk ?_ ?_) <;> intro hc | exact rfl | refine sAct_fnI hm4 (apure2 hp9 rfl) he9 hi9 ?_) <;> conv => whnf)
    exact ⟨_, rfl, hfin⟩
end Go.AM
set_option maxRecDepth 20000
namespace Go.AM
theorem oddE_ev : ∀ (k : Nat) (e : Ex), e.size ≤ k → k < 10000 → e.Fit → ∀ q0 q1 q2 : Int, ∃ v, Ev E 314 [e.v, .agg [vi q0, vi q1, vi q2]] ⟨v, []⟩ ∧ OddE (100 * e.size + 100) v
  | 0, e, h, _, _, _, _, _ => by have := e.size_pos; omega
  | k + 1, .mk op var val nl l, h, hk, hf, q0, q1, q2 => by
    have hsz : (Ex.mk op var val nl l).size = 1 + Ex.sizes l := by simp only [Ex.size]
    have hcp := rcopy_ev _ (Ex.mk op var val nl l) (Nat.le_refl _) (by omega)
    have hs := hf.val
    have hm := modI_bd (a := q1) (n := 8) (by decide) (by decide)
    have hm8 : modI q1 8 = 0 ∨ modI q1 8 = 1 ∨ modI q1 8 = 2 ∨ modI q1 8 = 3 ∨ modI q1 8 = 4 ∨ modI q1 8 = 5 ∨ modI q1 8 = 6 ∨ modI q1 8 = 7 := by
      have h1 : 0 ≤ modI q1 8 := hm.1
      have h2 : modI q1 8 < 8 := hm.2
      omega
    rw [hsz]
    have up : ∀ {B : Nat} {args : List V}, B ≤ 100 * (1 + Ex.sizes l) + 100 → (∃ v, Ev E 314 args ⟨v, []⟩ ∧ OddE B v) → ∃ v, Ev E 314 args ⟨v, []⟩ ∧ OddE (100 * (1 + Ex.sizes l) + 100) v := fun hB ⟨v, h1, h2⟩ => ⟨v, h1, h2.mono hB⟩
    have hll := Ex.length_le l
    cases hl : l with
    | nil =>
      subst hl
      rcases hm8 with h8 | h8 | h8 | h8 | h8 | h8 | h8 | h8
      · exact up (by omega) (oddn_0 hs h8 hcp)
      · exact up (by omega) (oddn_1 hs h8 hcp)
      · exact up (by omega) (oddn_2 hs h8 hcp)
      · exact up (by omega) (oddn_3 hs h8 hcp)
      · exact up (by omega) (oddn_4 hs h8 hcp)
      · exact up (by omega) (oddn_5 hs h8 hcp)
      · exact up (by omega) (oddn_6 hs h8 hcp)
      · exact up (by omega) (oddn_7 hs h8 hcp)
    | cons y ys =>
      rw [← hl]
      have hne : 0 < l.length := by rw [hl]; simp
      have hz := (modI_bd (a := q0) (n := 3) (by decide) (by decide)).1
      by_cases hz0 : 0 < modI q0 3
      · exact oddc_r hne (by omega) hf.mem hz0 hs hcp fun x hx q => by
          have hxs := Ex.size_mem hx
          have h1 := oddE_ev k x.norm (by rw [Ex.norm_size]; omega) (by omega) (norm_fit (hf.mem x hx)) q q1 q2
          rw [Ex.norm_size] at h1
          exact h1
      · have hz' : modI q0 3 = 0 := by
          have : 0 ≤ modI q0 3 := hz
          omega
        rcases hm8 with h8 | h8 | h8 | h8 | h8 | h8 | h8 | h8
        · exact up (by omega) (oddc_0 hne (by omega) hf.mem hz' hs h8 hcp)
        · exact up (by omega) (oddc_1 hne (by omega) hf.mem hz' hs h8 hcp)
        · exact up (by omega) (oddc_2 hne (by omega) hf.mem hz' hs h8 hcp)
        · exact up (by omega) (oddc_3 hne (by omega) hf.mem hz' hs h8 hcp)
        · exact up (by omega) (oddc_4 hne (by omega) hf.mem hz' hs h8 hcp)
        · exact up (by omega) (oddc_5 hne (by omega) hf.mem hz' hs h8 hcp)
        · exact up (by omega) (oddc_6 hne (by omega) hf.mem hz' hs h8 hcp)
        · exact up (by omega) (oddc_7 hne (by omega) hf.mem hz' hs h8 hcp)
theorem odd_ev (e : Ex) (q0 q1 q2 : Int) (he : e.size ≤ 46) (hf : e.Fit) : ∃ (r : V) (e' : Ex), Ev E 314 [e.v, .agg [vi q0, vi q1, vi q2]] ⟨r, []⟩ ∧ OddR e' r ∧ e'.Fit ∧ e'.size ≤ 5000 := by
  obtain ⟨v, h1, e', h2, h3, h4⟩ := oddE_ev _ e (Nat.le_refl _) (by omega) hf q0 q1 q2
  exact ⟨v, e', h1, h2, h3, by omega⟩
end Go.AM
