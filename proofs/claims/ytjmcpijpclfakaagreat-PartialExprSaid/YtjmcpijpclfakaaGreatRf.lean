/-
  Texts of the proof, joined by program: PGenFc0, PGenFc1, PGenFc2, PGenFc3. Own work.
-/
import Derived.Test.YtjmcpijpclfakaaGreatRd
set_option linter.unusedSimpArgs false
set_option linter.unusedVariables false
set_option maxRecDepth 20000
namespace Go.AM
set_option maxHeartbeats 4000000 in
theorem oddc_0 {op var : Int} {val : Va} {nl : Bool} {q0 q1 q2 : Int} {l : List Ex} (hne : 0 < l.length) (hlen : l.length < 1000000) (hfit : ∀ x ∈ l, x.Fit) (hz : modI q0 3 = 0) (hs : val.s.length < 4611686018427387904) (hm : modI q1 8 = 0)
    (hcp : Ev E 334 [(Ex.mk op var val nl l).v] ⟨(Ex.mk op var val nl l).norm.ov, []⟩) : ∃ v, Ev E 314 [(Ex.mk op var val nl l).v, .agg [vi q0, vi q1, vi q2]] ⟨v, []⟩ ∧ OddE (2 + Ex.sizes l) v := by
  have m40 := mod_ev (a := q2) (n := 40) (by decide)
  have m8 := mod_ev (a := q1) (n := 8) (by decide)
  rw [hm] at m8
  have hb := modI_bd (a := q2) (n := 40) (by decide) (by decide)
  have hn0 : 0 ≤ modI q2 40 := hb.1
  generalize modI q2 40 = n at m40 hn0
  have m3 := mod_ev (a := q0) (n := 3) (by decide)
  rw [hz] at m3
  have hlv : lv nl (l.map Ex.v) = .lit 7 (l.map Ex.v) := by
    cases l with
    | nil => simp at hne
    | cons y ys => rfl
  have hov : (Ex.mk op var val nl l).norm.ov = .agg [vi op, vi var, vi val.t, vi val.n, .bool val.b, .str val.s, .own 7 ((l.map Ex.norm).map Ex.v)] := by
    cases l with
    | nil => simp at hne
    | cons y ys => simp only [Ex.norm, Ex.norms_eq, Ex.ov]; rfl
  have hnf : ∀ x ∈ l.map Ex.norm, x.Fit := fun x hx => by
    obtain ⟨y, hy, rfl⟩ := List.mem_map.1 hx
    exact norm_fit (hfit y hy)
  have hns : Ex.sizes (l.map Ex.norm) = Ex.sizes l := by rw [← Ex.norms_eq]; exact Ex.norms_size l
  have hnl : (l.map Ex.norm).length = l.length := List.length_map ..
  generalize l.map Ex.norm = N at *
  have lmN : (N.map Ex.v).length = N.length := List.length_map ..
  have hpos : (0 : Int) < ((N.map Ex.v).length : Nat) := by omega
  rw [hov] at hcp
  rw [Ex.v_eq, hlv] at hcp ⊢
  refine oddex ?_
  refine Ev.of_s (R := fun r => ∃ v, r = ⟨v, []⟩ ∧ OddE (2 + Ex.sizes l) v) E_314 (X_314 _) rfl ?_
  (conv => whnf); repeat' ((first | intro g | refine Need.mk (Ex.pures _) ?_ | refine Need.mk (⟨Nat.le_of_eq (Nat.zero_add _), Ex.pures _⟩) ?_ | refine CallS.mk _ (hcp) ?_ | refine CallS.mk _ (m40) ?_ | refine CallS.mk _ (m8) ?_ | refine CallS.mk _ (m3) ?_ | refine st ?_ | (first | refine b1 ?_ ?_ | refine b2 ?_ ?_ | refine Br.mk ?_ ?_) <;> intro hc | exact rfl) <;> conv => whnf)
  exact ⟨_, rfl, oddE_own (l := N) (val := val) hs hnf (by omega)⟩
end Go.AM
set_option maxRecDepth 20000
namespace Go.AM
set_option maxHeartbeats 4000000 in
theorem oddc_1 {op var : Int} {val : Va} {nl : Bool} {q0 q1 q2 : Int} {l : List Ex} (hne : 0 < l.length) (hlen : l.length < 1000000) (hfit : ∀ x ∈ l, x.Fit) (hz : modI q0 3 = 0) (hs : val.s.length < 4611686018427387904) (hm : modI q1 8 = 1)
    (hcp : Ev E 334 [(Ex.mk op var val nl l).v] ⟨(Ex.mk op var val nl l).norm.ov, []⟩) : ∃ v, Ev E 314 [(Ex.mk op var val nl l).v, .agg [vi q0, vi q1, vi q2]] ⟨v, []⟩ ∧ OddE (2 + Ex.sizes l) v := by
  have m40 := mod_ev (a := q2) (n := 40) (by decide)
  have m8 := mod_ev (a := q1) (n := 8) (by decide)
  rw [hm] at m8
  have hb := modI_bd (a := q2) (n := 40) (by decide) (by decide)
  have hn0 : 0 ≤ modI q2 40 := hb.1
  generalize modI q2 40 = n at m40 hn0
  have m3 := mod_ev (a := q0) (n := 3) (by decide)
  rw [hz] at m3
  have hlv : lv nl (l.map Ex.v) = .lit 7 (l.map Ex.v) := by
    cases l with
    | nil => simp at hne
    | cons y ys => rfl
  have hov : (Ex.mk op var val nl l).norm.ov = .agg [vi op, vi var, vi val.t, vi val.n, .bool val.b, .str val.s, .own 7 ((l.map Ex.norm).map Ex.v)] := by
    cases l with
    | nil => simp at hne
    | cons y ys => simp only [Ex.norm, Ex.norms_eq, Ex.ov]; rfl
  have hnf : ∀ x ∈ l.map Ex.norm, x.Fit := fun x hx => by
    obtain ⟨y, hy, rfl⟩ := List.mem_map.1 hx
    exact norm_fit (hfit y hy)
  have hns : Ex.sizes (l.map Ex.norm) = Ex.sizes l := by rw [← Ex.norms_eq]; exact Ex.norms_size l
  have hnl : (l.map Ex.norm).length = l.length := List.length_map ..
  generalize l.map Ex.norm = N at *
  have lmN : (N.map Ex.v).length = N.length := List.length_map ..
  have hpos : (0 : Int) < ((N.map Ex.v).length : Nat) := by omega
  rw [hov] at hcp
  rw [Ex.v_eq, hlv] at hcp ⊢
  refine oddex ?_
  refine Ev.of_s (R := fun r => ∃ v, r = ⟨v, []⟩ ∧ OddE (2 + Ex.sizes l) v) E_314 (X_314 _) rfl ?_
  (conv => whnf); repeat' ((first | intro g | refine Need.mk (Ex.pures _) ?_ | refine Need.mk (⟨Nat.le_of_eq (Nat.zero_add _), Ex.pures _⟩) ?_ | refine CallS.mk _ (hcp) ?_ | refine CallS.mk _ (m40) ?_ | refine CallS.mk _ (m8) ?_ | refine CallS.mk _ (m3) ?_ | refine st ?_ | (first | refine b1 ?_ ?_ | refine b2 ?_ ?_ | refine Br.mk ?_ ?_) <;> intro hc | exact rfl) <;> conv => whnf)
  exact ⟨_, rfl, oddE_own (l := N) (val := val) hs hnf (by omega)⟩
end Go.AM
set_option maxRecDepth 20000
namespace Go.AM
set_option maxHeartbeats 4000000 in
theorem oddc_2 {op var : Int} {val : Va} {nl : Bool} {q0 q1 q2 : Int} {l : List Ex} (hne : 0 < l.length) (hlen : l.length < 1000000) (hfit : ∀ x ∈ l, x.Fit) (hz : modI q0 3 = 0) (hs : val.s.length < 4611686018427387904) (hm : modI q1 8 = 2)
    (hcp : Ev E 334 [(Ex.mk op var val nl l).v] ⟨(Ex.mk op var val nl l).norm.ov, []⟩) : ∃ v, Ev E 314 [(Ex.mk op var val nl l).v, .agg [vi q0, vi q1, vi q2]] ⟨v, []⟩ ∧ OddE (2 + Ex.sizes l) v := by
  have m40 := mod_ev (a := q2) (n := 40) (by decide)
  have m8 := mod_ev (a := q1) (n := 8) (by decide)
  rw [hm] at m8
  have hb := modI_bd (a := q2) (n := 40) (by decide) (by decide)
  have hn0 : 0 ≤ modI q2 40 := hb.1
  generalize modI q2 40 = n at m40 hn0
  have m3 := mod_ev (a := q0) (n := 3) (by decide)
  rw [hz] at m3
  have hlv : lv nl (l.map Ex.v) = .lit 7 (l.map Ex.v) := by
    cases l with
    | nil => simp at hne
    | cons y ys => rfl
  have hov : (Ex.mk op var val nl l).norm.ov = .agg [vi op, vi var, vi val.t, vi val.n, .bool val.b, .str val.s, .own 7 ((l.map Ex.norm).map Ex.v)] := by
    cases l with
    | nil => simp at hne
    | cons y ys => simp only [Ex.norm, Ex.norms_eq, Ex.ov]; rfl
  have hnf : ∀ x ∈ l.map Ex.norm, x.Fit := fun x hx => by
    obtain ⟨y, hy, rfl⟩ := List.mem_map.1 hx
    exact norm_fit (hfit y hy)
  have hns : Ex.sizes (l.map Ex.norm) = Ex.sizes l := by rw [← Ex.norms_eq]; exact Ex.norms_size l
  have hnl : (l.map Ex.norm).length = l.length := List.length_map ..
  generalize l.map Ex.norm = N at *
  have lmN : (N.map Ex.v).length = N.length := List.length_map ..
  have hpos : (0 : Int) < ((N.map Ex.v).length : Nat) := by omega
  rw [hov] at hcp
  rw [Ex.v_eq, hlv] at hcp ⊢
  have b3 : 0 ≤ n.tmod 3 ∧ n.tmod 3 < 3 := rem_bd hn0 (k := 3) (by decide)
  have h30 : 0 ≤ n.tmod 3 := b3.1
  have h33 : n.tmod 3 < 3 := b3.2
  obtain ⟨x3, hx3⟩ := num3 hn0 n (IntKind.i64.wrap (1073741824 + n.tmod 2)) (IntKind.i64.wrap (-1073741824 - n.tmod 2))
  refine oddex ?_
  refine Ev.of_s (R := fun r => ∃ v, r = ⟨v, []⟩ ∧ OddE (2 + Ex.sizes l) v) E_314 (X_314 _) rfl ?_
  (conv => whnf); repeat' ((first | intro g | refine Need.mk (Ex.pures _) ?_ | refine Need.mk (⟨Nat.le_of_eq (Nat.zero_add _), Ex.pures _⟩) ?_ | refine Wit.mk _ (map_get hx3 (Int.toNat_of_nonneg h30).symm) ?_ | refine CallS.mk _ (hcp) ?_ | refine CallS.mk _ (m40) ?_ | refine CallS.mk _ (m8) ?_ | refine CallS.mk _ (m3) ?_ | refine CallS.mk _ (rint_ev _) ?_ | refine st ?_ | (first | refine b1 ?_ ?_ | refine b2 ?_ ?_ | refine Br.mk ?_ ?_) <;> intro hc | exact rfl) <;> conv => whnf)
  exact ⟨_, rfl, oddE_own (l := N) (val := ⟨1, x3, false, []⟩) (by simp) hnf (by omega)⟩
end Go.AM
set_option maxRecDepth 20000
namespace Go.AM
set_option maxHeartbeats 4000000 in
theorem oddc_3 {op var : Int} {val : Va} {nl : Bool} {q0 q1 q2 : Int} {l : List Ex} (hne : 0 < l.length) (hlen : l.length < 1000000) (hfit : ∀ x ∈ l, x.Fit) (hz : modI q0 3 = 0) (hs : val.s.length < 4611686018427387904) (hm : modI q1 8 = 3)
    (hcp : Ev E 334 [(Ex.mk op var val nl l).v] ⟨(Ex.mk op var val nl l).norm.ov, []⟩) : ∃ v, Ev E 314 [(Ex.mk op var val nl l).v, .agg [vi q0, vi q1, vi q2]] ⟨v, []⟩ ∧ OddE (2 + Ex.sizes l) v := by
  have m40 := mod_ev (a := q2) (n := 40) (by decide)
  have m8 := mod_ev (a := q1) (n := 8) (by decide)
  rw [hm] at m8
  have hb := modI_bd (a := q2) (n := 40) (by decide) (by decide)
  have hn0 : 0 ≤ modI q2 40 := hb.1
  generalize modI q2 40 = n at m40 hn0
  have m3 := mod_ev (a := q0) (n := 3) (by decide)
  rw [hz] at m3
  have hlv : lv nl (l.map Ex.v) = .lit 7 (l.map Ex.v) := by
    cases l with
    | nil => simp at hne
    | cons y ys => rfl
  have hov : (Ex.mk op var val nl l).norm.ov = .agg [vi op, vi var, vi val.t, vi val.n, .bool val.b, .str val.s, .own 7 ((l.map Ex.norm).map Ex.v)] := by
    cases l with
    | nil => simp at hne
    | cons y ys => simp only [Ex.norm, Ex.norms_eq, Ex.ov]; rfl
  have hnf : ∀ x ∈ l.map Ex.norm, x.Fit := fun x hx => by
    obtain ⟨y, hy, rfl⟩ := List.mem_map.1 hx
    exact norm_fit (hfit y hy)
  have hns : Ex.sizes (l.map Ex.norm) = Ex.sizes l := by rw [← Ex.norms_eq]; exact Ex.norms_size l
  have hnl : (l.map Ex.norm).length = l.length := List.length_map ..
  generalize l.map Ex.norm = N at *
  have lmN : (N.map Ex.v).length = N.length := List.length_map ..
  have hpos : (0 : Int) < ((N.map Ex.v).length : Nat) := by omega
  rw [hov] at hcp
  rw [Ex.v_eq, hlv] at hcp ⊢
  have b5 : 0 ≤ n.tmod 5 ∧ n.tmod 5 < 5 := rem_bd hn0 (k := 5) (by decide)
  have h50 : 0 ≤ n.tmod 5 := b5.1
  have h55 : n.tmod 5 < 5 := b5.2
  obtain ⟨s5, hs5, hl5⟩ := str5 hn0
  refine oddex ?_
  refine Ev.of_s (R := fun r => ∃ v, r = ⟨v, []⟩ ∧ OddE (2 + Ex.sizes l) v) E_314 (X_314 _) rfl ?_
  (conv => whnf); repeat' ((first | intro g | refine Need.mk (Ex.pures _) ?_ | refine Need.mk (⟨Nat.le_of_eq (Nat.zero_add _), Ex.pures _⟩) ?_ | refine Wit.mk _ (map_get hs5 (Int.toNat_of_nonneg h50).symm) ?_ | refine CallS.mk _ (hcp) ?_ | refine CallS.mk _ (m40) ?_ | refine CallS.mk _ (m8) ?_ | refine CallS.mk _ (m3) ?_ | refine CallS.mk _ (rstr_ev _) ?_ | refine st ?_ | (first | refine b1 ?_ ?_ | refine b2 ?_ ?_ | refine Br.mk ?_ ?_) <;> intro hc | exact rfl) <;> conv => whnf)
  exact ⟨_, rfl, oddE_own (l := N) (val := ⟨3, 0, false, s5⟩) (by dsimp only; omega) hnf (by omega)⟩
end Go.AM
