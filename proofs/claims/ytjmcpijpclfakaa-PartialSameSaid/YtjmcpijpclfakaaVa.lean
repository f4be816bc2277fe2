/-
  Texts of the proof, joined by program: PValA, PValB, PValC. Own work.
-/
import Derived.Test.YtjmcpijpclfakaaIa
import Derived.Test.YtjmcpijpclfakaaQa
import Derived.Test.YtjmcpijpclfakaaHa
import Derived.Test.YtjmcpijpclfakaaKa
set_option linter.unusedSimpArgs false
set_option linter.unusedVariables false
set_option maxRecDepth 20000
namespace Go.AM
def eqVa (a b : Va) : Bool := decide (a.n = b.n) && (a.b == b.b) && decide (a.s = b.s)
def numOp (op : Int) (x y : Int) : Int :=
  if op = 8 then lim (w64 (x + y)) else if op = 9 then lim (w64 (x - y)) else if op = 10 then lim (w64 (x * y)) else if op = 11 then imin x y else imax x y
def opVal (op : Int) : List Va → Va
  | [a] => ⟨2, 0, !a.b, []⟩
  | [a, b] => if op = 6 then ⟨2, 0, eqVa a b, []⟩ else if op = 4 then ⟨2, 0, a.b && b.b, []⟩ else if op = 5 then ⟨2, 0, a.b || b.b, []⟩ else if op = 7 then ⟨2, 0, decide (a.n < b.n), []⟩
    else ⟨1, numOp op a.n b.n, false, []⟩
  | [a, b, c] => bif a.b then b else c
  | _ => zeroVa
def headVal (x : Envi) (op var : Int) (val : Va) (vs : List Va) : Va := if op = 1 then val else if op = 2 then x.val var else opVal op vs
mutual
def Ex.eval (x : Envi) : Ex → Va
  | .mk op var val nl l => headVal x op var val (Ex.evals x l)
def Ex.evals (x : Envi) : List Ex → List Va
  | [] => []
  | e :: l => e.eval x :: Ex.evals x l
end
theorem Ex.evals_eq (x : Envi) : ∀ l : List Ex, Ex.evals x l = l.map (Ex.eval x)
  | [] => by simp [Ex.evals]
  | e :: l => by simp [Ex.evals, Ex.evals_eq x l]
theorem Ex.eval_eq (x : Envi) (op var : Int) (val : Va) (nl : Bool) (l : List Ex) : (Ex.mk op var val nl l).eval x = headVal x op var val (l.map (Ex.eval x)) := by
  simp only [Ex.eval, Ex.evals_eq]
def BN (t : Int) (b : Bd) : Prop :=
  (t = 1 ∧ ∃ lo hi, b = nb lo hi ∧ -1073741824 ≤ lo ∧ lo ≤ hi ∧ hi ≤ 1073741824) ∨ (t = 2 ∧ ∃ lo hi, b = nb lo hi ∧ 0 ≤ lo ∧ lo ≤ hi ∧ hi ≤ 1) ∨
  (t = 3 ∧ ∃ nl ws, b = ⟨0, 0, nl, ws, !ws.isEmpty, true⟩)
def bi (p : Bool) : Int := bif p then 1 else 0
def InB (t : Int) (b : Bd) (v : Va) : Prop :=
  (t = 1 ∧ ∃ n, v = ⟨1, n, false, []⟩ ∧ b.lo ≤ n ∧ n ≤ b.hi) ∨ (t = 2 ∧ ∃ p : Bool, v = ⟨2, 0, p, []⟩ ∧ b.lo ≤ bi p ∧ bi p ≤ b.hi) ∨
  (t = 3 ∧ ∃ s, v = ⟨3, 0, false, s⟩ ∧ (b.ws ≠ [] → s ∈ b.ws))
theorem BN.one {b : Bd} (h : BN 1 b) : ∃ lo hi, b = nb lo hi ∧ -1073741824 ≤ lo ∧ lo ≤ hi ∧ hi ≤ 1073741824 := by
  rcases h with ⟨_, h⟩ | ⟨h, _⟩ | ⟨h, _⟩
  · exact h
  · exact absurd h (by decide)
  · exact absurd h (by decide)
theorem BN.two {b : Bd} (h : BN 2 b) : ∃ lo hi, b = nb lo hi ∧ 0 ≤ lo ∧ lo ≤ hi ∧ hi ≤ 1 := by
  rcases h with ⟨h, _⟩ | ⟨_, h⟩ | ⟨h, _⟩
  · exact absurd h (by decide)
  · exact h
  · exact absurd h (by decide)
theorem BN.three {b : Bd} (h : BN 3 b) : ∃ nl ws, b = ⟨0, 0, nl, ws, !ws.isEmpty, true⟩ := by
  rcases h with ⟨h, _⟩ | ⟨h, _⟩ | ⟨_, h⟩
  · exact absurd h (by decide)
  · exact absurd h (by decide)
  · exact h
theorem InB.one {b : Bd} {v : Va} (h : InB 1 b v) : ∃ n, v = ⟨1, n, false, []⟩ ∧ b.lo ≤ n ∧ n ≤ b.hi := by
  rcases h with ⟨_, h⟩ | ⟨h, _⟩ | ⟨h, _⟩
  · exact h
  · exact absurd h (by decide)
  · exact absurd h (by decide)
theorem InB.two {b : Bd} {v : Va} (h : InB 2 b v) : ∃ p : Bool, v = ⟨2, 0, p, []⟩ ∧ b.lo ≤ bi p ∧ bi p ≤ b.hi := by
  rcases h with ⟨h, _⟩ | ⟨_, h⟩ | ⟨h, _⟩
  · exact absurd h (by decide)
  · exact h
  · exact absurd h (by decide)
theorem InB.three {b : Bd} {v : Va} (h : InB 3 b v) : ∃ s, v = ⟨3, 0, false, s⟩ ∧ (b.ws ≠ [] → s ∈ b.ws) := by
  rcases h with ⟨h, _⟩ | ⟨h, _⟩ | ⟨_, h⟩
  · exact absurd h (by decide)
  · exact absurd h (by decide)
  · exact h
theorem BN.t {t : Int} {b : Bd} (h : BN t b) : t = 1 ∨ t = 2 ∨ t = 3 := by
  rcases h with ⟨h, _⟩ | ⟨h, _⟩ | ⟨h, _⟩ <;> omega
theorem bn1 {lo hi : Int} (h1 : -1073741824 ≤ lo) (h2 : lo ≤ hi) (h3 : hi ≤ 1073741824) : BN 1 (nb lo hi) := .inl ⟨rfl, lo, hi, rfl, h1, h2, h3⟩
theorem bn2 {lo hi : Int} (h1 : 0 ≤ lo) (h2 : lo ≤ hi) (h3 : hi ≤ 1) : BN 2 (nb lo hi) := .inr (.inl ⟨rfl, lo, hi, rfl, h1, h2, h3⟩)
theorem in1 {b : Bd} {n : Int} (h1 : b.lo ≤ n) (h2 : n ≤ b.hi) : InB 1 b ⟨1, n, false, []⟩ := .inl ⟨rfl, n, rfl, h1, h2⟩
theorem in2 {b : Bd} {p : Bool} (h1 : b.lo ≤ bi p) (h2 : bi p ≤ b.hi) : InB 2 b ⟨2, 0, p, []⟩ := .inr (.inl ⟨rfl, p, rfl, h1, h2⟩)
theorem lim_le {a b : Int} (h : a ≤ b) : lim a ≤ lim b := by
  unfold lim imax imin
  repeat' split
  all_goals omega
theorem lim_lo (a : Int) : -1073741824 ≤ lim a := by
  unfold lim imax imin
  repeat' split
  all_goals omega
theorem lim_hi (a : Int) : lim a ≤ 1073741824 := by
  unfold lim imax imin
  repeat' split
  all_goals omega
theorem w64_in {n : Int} (h0 : -9223372036854775808 ≤ n) (h1 : n ≤ 9223372036854775807) : w64 n = n := wrap64 h0 h1
theorem imin_le (a b : Int) : imin a b ≤ a ∧ imin a b ≤ b := by unfold imin; split <;> omega
theorem le_imax (a b : Int) : a ≤ imax a b ∧ b ≤ imax a b := by unfold imax; split <;> omega
theorem imin_mono {a b c d : Int} (h : a ≤ c) (h2 : b ≤ d) : imin a b ≤ imin c d := by unfold imin; split <;> split <;> omega
theorem imax_mono {a b c d : Int} (h : a ≤ c) (h2 : b ≤ d) : imax a b ≤ imax c d := by unfold imax; split <;> split <;> omega
theorem mul_between {l h x y : Int} (h1 : l ≤ x) (h2 : x ≤ h) : (l * y ≤ x * y ∧ x * y ≤ h * y) ∨ (h * y ≤ x * y ∧ x * y ≤ l * y) := by
  rcases Int.le_total 0 y with hy | hy
  · exact .inl ⟨Int.mul_le_mul_of_nonneg_right h1 hy, Int.mul_le_mul_of_nonneg_right h2 hy⟩
  · exact .inr ⟨Int.mul_le_mul_of_nonpos_right h2 hy, Int.mul_le_mul_of_nonpos_right h1 hy⟩
theorem mul_corners {a c x b d y : Int} (h1 : a ≤ x) (h2 : x ≤ c) (h3 : b ≤ y) (h4 : y ≤ d) :
    imin (imin (imin (a * b) (a * d)) (c * b)) (c * d) ≤ x * y ∧ x * y ≤ imax (imax (imax (a * b) (a * d)) (c * b)) (c * d) := by
  have k1 := mul_between (y := y) h1 h2
  have k2 := mul_between (y := a) h3 h4
  have k3 := mul_between (y := c) h3 h4
  rw [Int.mul_comm b a, Int.mul_comm y a, Int.mul_comm d a] at k2
  rw [Int.mul_comm b c, Int.mul_comm y c, Int.mul_comm d c] at k3
  generalize a * b = p1 at *
  generalize a * d = p2 at *
  generalize c * b = p3 at *
  generalize c * d = p4 at *
  generalize a * y = p5 at *
  generalize c * y = p6 at *
  generalize x * y = p7 at *
  have e1 := imin_le (imin (imin p1 p2) p3) p4
  have e2 := imin_le (imin p1 p2) p3
  have e3 := imin_le p1 p2
  have f1 := le_imax (imax (imax p1 p2) p3) p4
  have f2 := le_imax (imax p1 p2) p3
  have f3 := le_imax p1 p2
  omega
theorem lim_imin (a b : Int) : lim (imin a b) = imin (lim a) (lim b) := by
  unfold lim imax imin
  repeat' split
  all_goals omega
theorem lim_imax (a b : Int) : lim (imax a b) = imax (lim a) (lim b) := by
  unfold lim imax imin
  repeat' split
  all_goals omega
theorem mul_small {x y : Int} (h1 : -1073741824 ≤ x) (h2 : x ≤ 1073741824) (h3 : -1073741824 ≤ y) (h4 : y ≤ 1073741824) : -9223372036854775808 ≤ x * y ∧ x * y ≤ 9223372036854775807 := by
  have k1 := mul_between (y := y) h1 h2
  omega
theorem least_eq (a b c d : Int) : least (nb a b) (nb c d) = nb (imin a c) (imin b d) := rfl
theorem greatest_eq (a b c d : Int) : greatest (nb a b) (nb c d) = nb (imax a c) (imax b d) := rfl
theorem bn_least {t : Int} {a b : Bd} (ht : t ≠ 3) (ha : BN t a) (hb : BN t b) : BN t (least a b) := by
  rcases ha.t with rfl | rfl | rfl
  · obtain ⟨l, h, rfl, h1, h2, h3⟩ := ha.one
    obtain ⟨l', h', rfl, k1, k2, k3⟩ := hb.one
    rw [least_eq]
    refine bn1 ?_ (imin_mono h2 k2) ?_
    · unfold imin; split <;> omega
    · unfold imin; split <;> omega
  · obtain ⟨l, h, rfl, h1, h2, h3⟩ := ha.two
    obtain ⟨l', h', rfl, k1, k2, k3⟩ := hb.two
    rw [least_eq]
    refine bn2 ?_ (imin_mono h2 k2) ?_
    · unfold imin; split <;> omega
    · unfold imin; split <;> omega
  · exact absurd rfl ht
theorem bn_greatest {t : Int} {a b : Bd} (ht : t ≠ 3) (ha : BN t a) (hb : BN t b) : BN t (greatest a b) := by
  rcases ha.t with rfl | rfl | rfl
  · obtain ⟨l, h, rfl, h1, h2, h3⟩ := ha.one
    obtain ⟨l', h', rfl, k1, k2, k3⟩ := hb.one
    rw [greatest_eq]
    refine bn1 ?_ (imax_mono h2 k2) ?_
    · unfold imax; split <;> omega
    · unfold imax; split <;> omega
  · obtain ⟨l, h, rfl, h1, h2, h3⟩ := ha.two
    obtain ⟨l', h', rfl, k1, k2, k3⟩ := hb.two
    rw [greatest_eq]
    refine bn2 ?_ (imax_mono h2 k2) ?_
    · unfold imax; split <;> omega
    · unfold imax; split <;> omega
  · exact absurd rfl ht
theorem bn_plus {a b : Bd} (ha : BN 1 a) (hb : BN 1 b) : BN 1 (plus a b) := by
  obtain ⟨l, h, rfl, h1, h2, h3⟩ := ha.one
  obtain ⟨l', h', rfl, k1, k2, k3⟩ := hb.one
  show BN 1 (nb (lim (w64 (l + l'))) (lim (w64 (h + h'))))
  rw [w64_in (by omega) (by omega), w64_in (by omega) (by omega)]
  exact bn1 (lim_lo _) (lim_le (by omega)) (lim_hi _)
theorem bn_minus {a b : Bd} (ha : BN 1 a) (hb : BN 1 b) : BN 1 (minus a b) := by
  obtain ⟨l, h, rfl, h1, h2, h3⟩ := ha.one
  obtain ⟨l', h', rfl, k1, k2, k3⟩ := hb.one
  show BN 1 (nb (lim (w64 (l - h'))) (lim (w64 (h - l'))))
  rw [w64_in (by omega) (by omega), w64_in (by omega) (by omega)]
  exact bn1 (lim_lo _) (lim_le (by omega)) (lim_hi _)
theorem times_eq {l h l' h' : Int} (h1 : -1073741824 ≤ l) (h2 : l ≤ h) (h3 : h ≤ 1073741824) (k1 : -1073741824 ≤ l') (k2 : l' ≤ h') (k3 : h' ≤ 1073741824) :
    times (nb l h) (nb l' h') = nb (lim (imin (imin (imin (l * l') (l * h')) (h * l')) (h * h'))) (lim (imax (imax (imax (l * l') (l * h')) (h * l')) (h * h'))) := by
  have e1 := mul_small (x := l) (y := l') (by omega) (by omega) (by omega) (by omega)
  have e2 := mul_small (x := l) (y := h') (by omega) (by omega) (by omega) (by omega)
  have e3 := mul_small (x := h) (y := l') (by omega) (by omega) (by omega) (by omega)
  have e4 := mul_small (x := h) (y := h') (by omega) (by omega) (by omega) (by omega)
  simp only [times, prodL, prodH, nb, w64_in e1.1 e1.2, w64_in e2.1 e2.2, w64_in e3.1 e3.2, w64_in e4.1 e4.2, lim_imin, lim_imax]
theorem bn_times {a b : Bd} (ha : BN 1 a) (hb : BN 1 b) : BN 1 (times a b) := by
  obtain ⟨l, h, rfl, h1, h2, h3⟩ := ha.one
  obtain ⟨l', h', rfl, k1, k2, k3⟩ := hb.one
  rw [times_eq h1 h2 h3 k1 k2 k3]
  have := mul_corners (x := l) (y := l') (Int.le_refl _) h2 (Int.le_refl _) k2
  exact bn1 (lim_lo _) (lim_le (by omega)) (lim_hi _)
theorem bn_bool : BN 2 (nb 0 0) ∧ BN 2 (nb 1 1) ∧ BN 2 (nb 0 1) := ⟨bn2 (by decide) (by decide) (by decide), bn2 (by decide) (by decide) (by decide), bn2 (by decide) (by decide) (by decide)⟩
theorem bn_less (a b : Bd) : BN 2 (lessB a b) := by
  unfold lessB
  repeat' split
  all_goals first | exact bn_bool.1 | exact bn_bool.2.1 | exact bn_bool.2.2
theorem bn_eqB (a b : Bd) : BN 2 (eqB a b) := by
  unfold eqB
  repeat' split
  all_goals first | exact bn_bool.1 | exact bn_bool.2.1 | exact bn_bool.2.2
theorem union_ne {a : List Str} : ∀ {l : List Str}, a ≠ [] → union a l ≠ []
  | [], h => h
  | s :: l, h => by
    unfold union
    refine union_ne ?_
    split
    · exact h
    · simp
theorem bn_either {t : Int} {a b : Bd} (ha : BN t a) (hb : BN t b) : BN t (either a b) := by
  rcases ha.t with rfl | rfl | rfl
  · obtain ⟨l, h, rfl, h1, h2, h3⟩ := ha.one
    obtain ⟨l', h', rfl, k1, k2, k3⟩ := hb.one
    show BN 1 (nb (imin l l') (imax h h'))
    refine bn1 ?_ ?_ ?_
    · unfold imin; split <;> omega
    · unfold imin imax; split <;> split <;> omega
    · unfold imax; split <;> omega
  · obtain ⟨l, h, rfl, h1, h2, h3⟩ := ha.two
    obtain ⟨l', h', rfl, k1, k2, k3⟩ := hb.two
    show BN 2 (nb (imin l l') (imax h h'))
    refine bn2 ?_ ?_ ?_
    · unfold imin; split <;> omega
    · unfold imin imax; split <;> split <;> omega
    · unfold imax; split <;> omega
  · obtain ⟨nl, ws, rfl⟩ := ha.three
    obtain ⟨nl', ws', rfl⟩ := hb.three
    refine .inr (.inr ⟨rfl, ?_⟩)
    simp only [either]
    cases ws with
    | nil => exact ⟨false, [], by simp⟩
    | cons w ws =>
      cases ws' with
      | nil => exact ⟨false, [], by simp⟩
      | cons w' ws' =>
        refine ⟨false, union (w :: ws) (w' :: ws'), ?_⟩
        have := union_ne (a := w :: ws) (l := w' :: ws') (by simp)
        simp [this]
theorem vart3 {v : Int} (h : varT v ≠ 0) : varT v = 1 ∨ varT v = 2 ∨ varT v = 3 := by
  unfold varT at h ⊢
  repeat' split
  all_goals first | omega | (simp_all; done)
theorem bd_bn {K : Int → Bd} (hK : ∀ v, varT v ≠ 0 → BN (varT v) (K v)) : ∀ (k : Nat) (e : Ex), e.size ≤ k → e.typ ≠ 0 → BN e.typ (e.bd K)
  | 0, e, hk, _ => by have := e.size_pos; omega
  | k + 1, .mk op var val nl l, hk, ht => by
    have ih := bd_bn hK k
    rw [Ex.bd_eq]
    simp only [Ex.size] at hk
    rcases typ_cases ht with ⟨rfl, rfl, rfl, hr, hT⟩ | ⟨rfl, rfl, rfl, hv, hT⟩ | ⟨x, rfl, rfl, rfl, rfl, hx, hT⟩ | ⟨x, y, ho, rfl, rfl, rfl, hx, hy, hT3, h6, h45, h7, h8⟩ | ⟨x, y, z, rfl, rfl, rfl, rfl, hx, hy, hz, hT⟩
    · rw [hT]
      simp only [List.map_nil, headBd, if_true]
      unfold Va.right at hr
      unfold constBd
      split at hr
      · rename_i e
        rw [if_neg (by omega), if_neg (by omega), e]
        simp at hr
        exact bn1 (by omega) (by omega) (by omega)
      · split at hr
        · rename_i e
          rw [if_neg (by omega), if_pos e, e]
          cases val.b
          · exact bn_bool.1
          · exact bn_bool.2.1
        · split at hr
          · rename_i e
            rw [if_pos e, e]
            exact .inr (.inr ⟨rfl, false, _, rfl⟩)
          · cases hr
    · rw [hT]
      simp only [List.map_nil, headBd]
      exact hK var hv
    · simp only [Ex.sizes] at hk
      have hb := ih x (by omega) (by omega)
      rw [hT]
      rw [hx] at hb
      simp only [List.map_cons, List.map_nil, headBd]
      obtain ⟨lo, hi, e, h1, h2, h3⟩ := hb.two
      rw [e]
      show BN 2 (nb (w64 (1 - hi)) (w64 (1 - lo)))
      rw [w64_in (by omega) (by omega), w64_in (by omega) (by omega)]
      exact bn2 (by omega) (by omega) (by omega)
    · simp only [Ex.sizes] at hk
      have hbx := ih x (by omega) hx
      have hby := ih y (by omega) hy
      simp only [List.map_cons, List.map_nil, headBd]
      have ho' : op = 4 ∨ op = 5 ∨ op = 6 ∨ op = 7 ∨ op = 8 ∨ op = 9 ∨ op = 10 ∨ op = 11 ∨ op = 12 := by omega
      rcases ho' with rfl | rfl | rfl | rfl | rfl | rfl | rfl | rfl | rfl
      · obtain ⟨e1, e2, e3⟩ := h45 (.inl rfl)
        rw [e3]; rw [e1] at hbx; rw [e2] at hby
        exact bn_least (by decide) hbx hby
      · obtain ⟨e1, e2, e3⟩ := h45 (.inr rfl)
        rw [e3]; rw [e1] at hbx; rw [e2] at hby
        exact bn_greatest (by decide) hbx hby
      · rw [(h6 rfl).2]
        exact bn_eqB _ _
      · rw [(h7 rfl).2.2]
        exact bn_less _ _
      · obtain ⟨e1, e2, e3⟩ := h8 (by decide)
        rw [e3]; rw [e1] at hbx; rw [e2] at hby
        exact bn_plus hbx hby
      · obtain ⟨e1, e2, e3⟩ := h8 (by decide)
        rw [e3]; rw [e1] at hbx; rw [e2] at hby
        exact bn_minus hbx hby
      · obtain ⟨e1, e2, e3⟩ := h8 (by decide)
        rw [e3]; rw [e1] at hbx; rw [e2] at hby
        exact bn_times hbx hby
      · obtain ⟨e1, e2, e3⟩ := h8 (by decide)
        rw [e3]; rw [e1] at hbx; rw [e2] at hby
        exact bn_least (by decide) hbx hby
      · obtain ⟨e1, e2, e3⟩ := h8 (by decide)
        rw [e3]; rw [e1] at hbx; rw [e2] at hby
        exact bn_greatest (by decide) hbx hby
    · simp only [Ex.sizes] at hk
      have hby := ih y (by omega) hy
      have hbz := ih z (by omega) (by omega)
      rw [hT]
      rw [hz] at hbz
      simp only [List.map_cons, List.map_nil, headBd]
      split
      · exact hby
      · split
        · exact hbz
        · exact bn_either hby hbz
theorem foldLo_ge (v : Int) : ∀ (l : List Kno) (a : Int), a ≤ foldLo v l a
  | [], a => Int.le_refl _
  | k :: l, a => by
    refine Int.le_trans ?_ (foldLo_ge v l (if k.var = v then imax a k.lo else a))
    split
    · exact (le_imax _ _).1
    · exact Int.le_refl _
theorem foldHi_le (v : Int) : ∀ (l : List Kno) (a : Int), foldHi v l a ≤ a
  | [], a => Int.le_refl _
  | k :: l, a => by
    refine Int.le_trans (foldHi_le v l (if k.var = v then imin a k.hi else a)) ?_
    split
    · exact (imin_le _ _).1
    · exact Int.le_refl _
theorem fact_bn (l : List Kno) (v : Int) (h : varT v ≠ 0) : BN (varT v) (factB l v) := by
  unfold factB
  have h1 := foldLo_ge v l (fromV v)
  have h2 := foldHi_le v l (toV v)
  rcases vart3 h with e | e | e
  · rw [if_neg (by omega), e]
    have f : fromV v = -1073741824 := by unfold fromV; rw [if_neg (by omega)]
    have g : toV v = 1073741824 := by unfold toV; rw [if_neg (by omega)]
    unfold rngB
    rw [f] at h1; rw [g] at h2; rw [f, g]
    split
    · exact bn1 (by decide) (by decide) (by decide)
    · exact bn1 (by omega) (by omega) (by omega)
  · rw [if_neg (by omega), e]
    have f : fromV v = 0 := by unfold fromV; rw [if_pos e]
    have g : toV v = 1 := by unfold toV; rw [if_pos e]
    unfold rngB
    rw [f] at h1; rw [g] at h2; rw [f, g]
    split
    · exact bn2 (by decide) (by decide) (by decide)
    · exact bn2 (by omega) (by omega) (by omega)
  · rw [if_pos e, e]
    exact .inr (.inr ⟨rfl, true, _, rfl⟩)
theorem foldLo_le {v n : Int} : ∀ {l : List Kno} {a : Int}, a ≤ n → (∀ k ∈ l, k.var = v → k.lo ≤ n) → foldLo v l a ≤ n
  | [], a, h, _ => h
  | k :: l, a, h, hk => by
    refine foldLo_le (l := l) (a := if k.var = v then imax a k.lo else a) ?_ (fun k' hk' => hk k' (by simp [hk']))
    split
    · rename_i e
      have := hk k (by simp) e
      unfold imax; split <;> omega
    · exact h
theorem le_foldHi {v n : Int} : ∀ {l : List Kno} {a : Int}, n ≤ a → (∀ k ∈ l, k.var = v → n ≤ k.hi) → n ≤ foldHi v l a
  | [], a, h, _ => h
  | k :: l, a, h, hk => by
    refine le_foldHi (l := l) (a := if k.var = v then imin a k.hi else a) ?_ (fun k' hk' => hk k' (by simp [hk']))
    split
    · rename_i e
      have := hk k (by simp) e
      unfold imin; split <;> omega
    · exact h
theorem union_sub {s : Str} : ∀ {l a : List Str}, s ∈ a ∨ s ∈ l → s ∈ union a l
  | [], a, h => by simpa [union] using h
  | x :: l, a, h => by
    unfold union
    refine union_sub ?_
    rcases h with h | h
    · left; split
      · exact h
      · simp [h]
    · rcases List.mem_cons.1 h with rfl | h
      · left; split
        · assumption
        · simp
      · exact .inr h
theorem val_lim (x : Envi) {v : Int} (h : varT v = 1) : ∃ n, x.val v = ⟨1, n, false, []⟩ ∧ -1073741824 ≤ n ∧ n ≤ 1073741824 := by
  unfold varT at h
  unfold Envi.val
  repeat' split
  all_goals first
    | exact ⟨_, rfl, lim_lo _, lim_hi _⟩
    | (subst_vars; simp at h; done)
    | (exfalso; simp_all)
theorem fact_in {l : List Kno} {x : Envi} (hf : l.all (fitsK x) = true) (v : Int) (h : varT v ≠ 0) : InB (varT v) (factB l v) (x.val v) := by
  rw [List.all_eq_true] at hf
  unfold factB
  rcases vart3 h with e | e | e
  · rw [if_neg (by omega), e]
    obtain ⟨n, hn, h1, h2⟩ := val_lim x e
    rw [hn]
    have f : fromV v = -1073741824 := by unfold fromV; rw [if_neg (by omega)]
    have g : toV v = 1073741824 := by unfold toV; rw [if_neg (by omega)]
    have hk : ∀ k ∈ l, k.var = v → k.lo ≤ n ∧ n ≤ k.hi := by
      intro k hk hv
      have := hf k hk
      unfold fitsK at this
      rw [hv, if_neg (by omega), if_neg (by omega), hn] at this
      simp only [numV, cond_false, Bool.not_eq_true', Bool.or_eq_false_iff, decide_eq_false_iff_not] at this
      have p := of_decide_eq_false this.1
      have q := of_decide_eq_false this.2
      exact ⟨by omega, by omega⟩
    have p1 := foldLo_le (a := fromV v) (l := l) (n := n) (by omega) (fun k hk' hv => (hk k hk' hv).1)
    have p2 := le_foldHi (a := toV v) (l := l) (n := n) (by omega) (fun k hk' hv => (hk k hk' hv).2)
    unfold rngB
    rw [if_neg (by omega)]
    exact in1 p1 p2
  · rw [if_neg (by omega), e]
    obtain ⟨p, hn⟩ : ∃ p, x.val v = ⟨2, 0, p, []⟩ := by
      rcases val_cases x h with ⟨h1, _⟩ | ⟨_, h1⟩ | ⟨h1, _⟩
      · omega
      · exact h1
      · omega
    rw [hn]
    have f : fromV v = 0 := by unfold fromV; rw [if_pos e]
    have g : toV v = 1 := by unfold toV; rw [if_pos e]
    have hb : 0 ≤ bi p ∧ bi p ≤ 1 := by cases p <;> decide
    have hk : ∀ k ∈ l, k.var = v → k.lo ≤ bi p ∧ bi p ≤ k.hi := by
      intro k hk hv
      have := hf k hk
      unfold fitsK at this
      rw [hv, if_neg (by omega), if_neg (by omega), hn] at this
      simp only [numV] at this
      change (!(decide (bi p < k.lo) || decide (k.hi < bi p))) = true at this
      simp only [Bool.not_eq_true', Bool.or_eq_false_iff, decide_eq_false_iff_not] at this
      exact ⟨by omega, by omega⟩
    have p1 := foldLo_le (a := fromV v) (l := l) (n := bi p) (by omega) (fun k hk' hv => (hk k hk' hv).1)
    have p2 := le_foldHi (a := toV v) (l := l) (n := bi p) (by omega) (fun k hk' hv => (hk k hk' hv).2)
    unfold rngB
    rw [if_neg (by omega)]
    exact in2 p1 p2
  · rw [if_pos e, e]
    obtain ⟨s, hn⟩ : ∃ s, x.val v = ⟨3, 0, false, s⟩ := by
      rcases val_cases x h with ⟨h1, _⟩ | ⟨h1, _⟩ | ⟨_, h1⟩
      · omega
      · omega
      · exact h1
    refine .inr (.inr ⟨rfl, s, hn, ?_⟩)
    have hk : ∀ k ∈ ownOf v l, s ∈ k.texts := by
      intro k hk
      simp only [ownOf, List.mem_filter, decide_eq_true_eq] at hk
      have := hf k hk.1
      unfold fitsK at this
      rw [hk.2, if_neg (by omega), if_pos e, hn] at this
      simpa using this
    simp only [textsB]
    intro hne
    generalize ownOf v l = own at *
    cases own with
    | nil => exact absurd rfl hne
    | cons k own =>
      refine union_sub (.inr ?_)
      rw [List.mem_filter]
      refine ⟨hk k (by simp), ?_⟩
      rw [common, List.all_eq_true]
      intro k' hk'
      simpa using hk k' hk'
end Go.AM
set_option maxRecDepth 20000
namespace Go.AM
theorem eqB_num (l h l' h' : Int) : eqB (nb l h) (nb l' h') = if h < l' ∨ h' < l then nb 0 0 else if l = h ∧ l' = h' then nb 1 1 else nb 0 1 := by
  unfold eqB
  rw [if_neg (by simp [nb])]
  rfl
theorem in_eqN {l h l' h' n m : Int} {q : Bool} (hq : q = true ↔ n = m) (i1 : l ≤ n) (i2 : n ≤ h) (j1 : l' ≤ m) (j2 : m ≤ h') : (eqB (nb l h) (nb l' h')).lo ≤ bi q ∧ bi q ≤ (eqB (nb l h) (nb l' h')).hi := by
  rw [eqB_num]
  by_cases c1 : h < l' ∨ h' < l
  · rw [if_pos c1]
    have : q = false := by
      cases q
      · rfl
      · exact absurd (hq.1 rfl) (by omega)
    subst this
    exact ⟨by decide, by decide⟩
  · rw [if_neg c1]
    by_cases c2 : l = h ∧ l' = h'
    · rw [if_pos c2]
      have : q = true := hq.2 (by omega)
      subst this
      exact ⟨by decide, by decide⟩
    · rw [if_neg c2]
      cases q <;> exact ⟨by decide, by decide⟩
theorem in_lessN {l h l' h' n m : Int} {q : Bool} (hq : q = true ↔ n < m) (i1 : l ≤ n) (i2 : n ≤ h) (j1 : l' ≤ m) (j2 : m ≤ h') : (lessB (nb l h) (nb l' h')).lo ≤ bi q ∧ bi q ≤ (lessB (nb l h) (nb l' h')).hi := by
  have e : lessB (nb l h) (nb l' h') = if h < l' then nb 1 1 else if h' ≤ l then nb 0 0 else nb 0 1 := rfl
  rw [e]
  by_cases c1 : h < l'
  · rw [if_pos c1]
    have : q = true := hq.2 (by omega)
    subst this
    exact ⟨by decide, by decide⟩
  · rw [if_neg c1]
    by_cases c2 : h' ≤ l
    · rw [if_pos c2]
      have : q = false := by
        cases q
        · rfl
        · exact absurd (hq.1 rfl) (by omega)
      subst this
      exact ⟨by decide, by decide⟩
    · rw [if_neg c2]
      cases q <;> exact ⟨by decide, by decide⟩
theorem headVal_op {x : Envi} {op var : Int} {val : Va} {vs : List Va} (h1 : op ≠ 1) (h2 : op ≠ 2) : headVal x op var val vs = opVal op vs := by
  unfold headVal
  rw [if_neg h1, if_neg h2]
theorem in_eqB {t : Int} {a b : Bd} {u v : Va} (ha : BN t a) (hb : BN t b) (hu : InB t a u) (hv : InB t b v) : (eqB a b).lo ≤ bi (eqVa u v) ∧ bi (eqVa u v) ≤ (eqB a b).hi := by
  rcases ha.t with rfl | rfl | rfl
  · obtain ⟨l, h, rfl, h1, h2, h3⟩ := ha.one
    obtain ⟨l', h', rfl, k1, k2, k3⟩ := hb.one
    obtain ⟨n, rfl, i1, i2⟩ := hu.one
    obtain ⟨m, rfl, j1, j2⟩ := hv.one
    exact in_eqN (n := n) (m := m) (by simp [eqVa]) i1 i2 j1 j2
  · obtain ⟨l, h, rfl, h1, h2, h3⟩ := ha.two
    obtain ⟨l', h', rfl, k1, k2, k3⟩ := hb.two
    obtain ⟨p, rfl, i1, i2⟩ := hu.two
    obtain ⟨q, rfl, j1, j2⟩ := hv.two
    exact in_eqN (n := bi p) (m := bi q) (by cases p <;> cases q <;> simp [eqVa, bi]) i1 i2 j1 j2
  · obtain ⟨nl, ws, rfl⟩ := ha.three
    obtain ⟨nl', ws', rfl⟩ := hb.three
    obtain ⟨s, rfl, i1⟩ := hu.three
    obtain ⟨r, rfl, j1⟩ := hv.three
    have e : eqVa ⟨3, 0, false, s⟩ ⟨3, 0, false, r⟩ = decide (s = r) := by simp [eqVa]
    rw [e]
    simp only at i1 j1
    have hb0 : 0 ≤ bi (decide (s = r)) ∧ bi (decide (s = r)) ≤ 1 := by cases decide (s = r) <;> decide
    simp only [eqB, if_true]
    split
    · rename_i hs
      have hw : ws ≠ [] ∧ ws' ≠ [] := by
        cases ws <;> cases ws' <;> simp at hs ⊢
      have i2 := i1 hw.1
      have j2 := j1 hw.2
      split
      · rename_i hany
        split
        · rename_i hl
          match ws, ws', hl, i2, j2 with
          | [a], [b], _, i2, j2 =>
            simp at i2 j2 hany
            subst i2; subst j2; subst hany
            simp [bi, nb]
        · simp only [nb]; exact hb0
      · rename_i hany
        have : s ≠ r := by
          rintro rfl
          refine hany (List.any_eq_true.2 ⟨s, i2, by simpa using j2⟩)
        simp [this, bi, nb]
    · simp only [nb]; exact hb0
theorem in_either {t : Int} {a b : Bd} {u : Va} (ha : BN t a) (hb : BN t b) (hu : InB t a u ∨ InB t b u) : InB t (either a b) u := by
  rcases ha.t with rfl | rfl | rfl
  · obtain ⟨l, h, rfl, h1, h2, h3⟩ := ha.one
    obtain ⟨l', h', rfl, k1, k2, k3⟩ := hb.one
    have m1 := imin_le l l'
    have m2 := le_imax h h'
    rcases hu with hu | hu
    · obtain ⟨n, rfl, i1, i2⟩ := hu.one
      simp only [nb] at i1 i2
      show InB 1 (nb (imin l l') (imax h h')) _
      exact in1 (by simp only [nb]; omega) (by simp only [nb]; omega)
    · obtain ⟨n, rfl, i1, i2⟩ := hu.one
      simp only [nb] at i1 i2
      show InB 1 (nb (imin l l') (imax h h')) _
      exact in1 (by simp only [nb]; omega) (by simp only [nb]; omega)
  · obtain ⟨l, h, rfl, h1, h2, h3⟩ := ha.two
    obtain ⟨l', h', rfl, k1, k2, k3⟩ := hb.two
    have m1 := imin_le l l'
    have m2 := le_imax h h'
    rcases hu with hu | hu
    · obtain ⟨n, rfl, i1, i2⟩ := hu.two
      simp only [nb] at i1 i2
      show InB 2 (nb (imin l l') (imax h h')) _
      exact in2 (by simp only [nb]; omega) (by simp only [nb]; omega)
    · obtain ⟨n, rfl, i1, i2⟩ := hu.two
      simp only [nb] at i1 i2
      show InB 2 (nb (imin l l') (imax h h')) _
      exact in2 (by simp only [nb]; omega) (by simp only [nb]; omega)
  · obtain ⟨nl, ws, rfl⟩ := ha.three
    obtain ⟨nl', ws', rfl⟩ := hb.three
    simp only [either, if_true]
    split
    · rename_i hs
      have hw : ws ≠ [] ∧ ws' ≠ [] := by
        cases ws <;> cases ws' <;> simp at hs ⊢
      rcases hu with hu | hu
      · obtain ⟨s, rfl, i1⟩ := hu.three
        exact .inr (.inr ⟨rfl, s, rfl, fun _ => union_sub (.inl (i1 hw.1))⟩)
      · obtain ⟨s, rfl, i1⟩ := hu.three
        exact .inr (.inr ⟨rfl, s, rfl, fun _ => union_sub (.inr (i1 hw.2))⟩)
    · rcases hu with hu | hu
      · obtain ⟨s, rfl, i1⟩ := hu.three
        exact .inr (.inr ⟨rfl, s, rfl, fun h => absurd rfl h⟩)
      · obtain ⟨s, rfl, i1⟩ := hu.three
        exact .inr (.inr ⟨rfl, s, rfl, fun h => absurd rfl h⟩)
theorem in_const {val : Va} (hr : val.right = true) : InB val.t (constBd val) val := by
  unfold Va.right at hr
  unfold constBd
  obtain ⟨t, n, b, s⟩ := val
  dsimp only at hr ⊢
  split at hr
  · rename_i e
    subst e
    rw [if_neg (by decide), if_neg (by decide)]
    simp at hr
    obtain ⟨⟨_, rfl⟩, rfl⟩ := hr
    exact in1 (Int.le_refl _) (Int.le_refl _)
  · split at hr
    · rename_i e
      subst e
      rw [if_neg (by decide), if_pos rfl]
      simp at hr
      obtain ⟨rfl, rfl⟩ := hr
      cases b
      · exact in2 (Int.le_refl _) (Int.le_refl _)
      · exact in2 (Int.le_refl _) (Int.le_refl _)
    · split at hr
      · rename_i e
        subst e
        rw [if_pos rfl]
        simp at hr
        obtain ⟨⟨⟨_, rfl⟩, rfl⟩, _⟩ := hr
        exact .inr (.inr ⟨rfl, s, rfl, fun _ => by simp⟩)
      · cases hr
theorem eval_in {K : Int → Bd} {x : Envi} (hK : ∀ v, varT v ≠ 0 → BN (varT v) (K v)) (hI : ∀ v, varT v ≠ 0 → InB (varT v) (K v) (x.val v)) : ∀ (k : Nat) (e : Ex), e.size ≤ k → e.typ ≠ 0 → InB e.typ (e.bd K) (e.eval x)
  | 0, e, hk, _ => by have := e.size_pos; omega
  | k + 1, .mk op var val nl l, hk, ht => by
    have ih := eval_in hK hI k
    have ihb := fun (e : Ex) => bd_bn hK e.size e (Nat.le_refl _)
    rw [Ex.bd_eq, Ex.eval_eq]
    simp only [Ex.size] at hk
    rcases typ_cases ht with ⟨rfl, rfl, rfl, hr, hT⟩ | ⟨rfl, rfl, rfl, hv, hT⟩ | ⟨y, rfl, rfl, rfl, rfl, hx, hT⟩ | ⟨y, z, ho, rfl, rfl, rfl, hx, hy, hT3, h6, h45, h7, h8⟩ | ⟨y, z, w, rfl, rfl, rfl, rfl, hx, hy, hz, hT⟩
    · rw [hT]
      exact in_const hr
    · rw [hT]
      exact hI var hv
    · simp only [Ex.sizes] at hk
      have hb := ih y (by omega) (by omega)
      have hn := ihb y (by omega)
      rw [hT]
      rw [hx] at hb hn
      obtain ⟨lo, hi, e, h1, h2, h3⟩ := hn.two
      obtain ⟨p, e2, i1, i2⟩ := hb.two
      simp only [List.map_cons, List.map_nil, headBd, headVal, opVal, e2, e]
      rw [e] at i1 i2
      simp only [nb] at i1 i2
      rw [w64_in (by simp only [nb]; omega) (by simp only [nb]; omega), w64_in (by simp only [nb]; omega) (by simp only [nb]; omega)]
      refine in2 ?_ ?_
      · cases p <;> simp only [bi, nb, Bool.not_true, Bool.not_false, cond_true, cond_false] at * <;> omega
      · cases p <;> simp only [bi, nb, Bool.not_true, Bool.not_false, cond_true, cond_false] at * <;> omega
    · simp only [Ex.sizes] at hk
      have hu := ih y (by omega) hx
      have hv := ih z (by omega) hy
      have ha := ihb y hx
      have hb := ihb z hy
      simp only [List.map_cons, List.map_nil, headBd]
      rw [headVal_op (by omega) (by omega)]
      have ho' : op = 4 ∨ op = 5 ∨ op = 6 ∨ op = 7 ∨ op = 8 ∨ op = 9 ∨ op = 10 ∨ op = 11 ∨ op = 12 := by omega
      have num : 8 ≤ op → ∃ l h l' h' n m, y.bd K = nb l h ∧ z.bd K = nb l' h' ∧ y.eval x = ⟨1, n, false, []⟩ ∧ z.eval x = ⟨1, m, false, []⟩ ∧ -1073741824 ≤ l ∧ l ≤ h ∧ h ≤ 1073741824 ∧ -1073741824 ≤ l' ∧ l' ≤ h' ∧ h' ≤ 1073741824 ∧ l ≤ n ∧ n ≤ h ∧ l' ≤ m ∧ m ≤ h' := by
        intro h
        obtain ⟨e1, e2, e3⟩ := h8 h
        rw [e1] at ha hu; rw [e2] at hb hv
        obtain ⟨l, h, q1, h1, h2, h3⟩ := ha.one
        obtain ⟨l', h', q2, k1, k2, k3⟩ := hb.one
        obtain ⟨n, q3, i1, i2⟩ := hu.one
        obtain ⟨m, q4, j1, j2⟩ := hv.one
        rw [q1] at i1 i2; rw [q2] at j1 j2
        exact ⟨l, h, l', h', n, m, q1, q2, q3, q4, h1, h2, h3, k1, k2, k3, i1, i2, j1, j2⟩
      rcases ho' with rfl | rfl | rfl | rfl | rfl | rfl | rfl | rfl | rfl
      · obtain ⟨e1, e2, e3⟩ := h45 (.inl rfl)
        rw [e3]; rw [e1] at ha hu; rw [e2] at hb hv
        obtain ⟨l, h, q1, h1, h2, h3⟩ := ha.two
        obtain ⟨l', h', q2, k1, k2, k3⟩ := hb.two
        obtain ⟨p, q3, i1, i2⟩ := hu.two
        obtain ⟨q, q4, j1, j2⟩ := hv.two
        rw [q1] at i1 i2; rw [q2] at j1 j2
        rw [q1, q2, q3, q4]
        show InB 2 (nb (imin l l') (imin h h')) ⟨2, 0, p && q, []⟩
        simp only [nb] at i1 i2 j1 j2
        have m1 := imin_le l l'
        have m2 : imin h h' = h ∨ imin h h' = h' := by unfold imin; split <;> simp
        refine in2 ?_ ?_
        · cases p <;> cases q <;> simp only [bi, nb, Bool.and_true, Bool.and_false, cond_true, cond_false] at * <;> omega
        · cases p <;> cases q <;> simp only [bi, nb, Bool.and_true, Bool.and_false, cond_true, cond_false] at * <;> omega
      · obtain ⟨e1, e2, e3⟩ := h45 (.inr rfl)
        rw [e3]; rw [e1] at ha hu; rw [e2] at hb hv
        obtain ⟨l, h, q1, h1, h2, h3⟩ := ha.two
        obtain ⟨l', h', q2, k1, k2, k3⟩ := hb.two
        obtain ⟨p, q3, i1, i2⟩ := hu.two
        obtain ⟨q, q4, j1, j2⟩ := hv.two
        rw [q1] at i1 i2; rw [q2] at j1 j2
        rw [q1, q2, q3, q4]
        show InB 2 (nb (imax l l') (imax h h')) ⟨2, 0, p || q, []⟩
        simp only [nb] at i1 i2 j1 j2
        have m1 := le_imax h h'
        have m2 : imax l l' = l ∨ imax l l' = l' := by unfold imax; split <;> simp
        refine in2 ?_ ?_
        · cases p <;> cases q <;> simp only [bi, nb, Bool.or_true, Bool.or_false, cond_true, cond_false] at * <;> omega
        · cases p <;> cases q <;> simp only [bi, nb, Bool.or_true, Bool.or_false, cond_true, cond_false] at * <;> omega
      · obtain ⟨e1, e2⟩ := h6 rfl
        rw [e2]
        rw [← e1] at hb hv
        have := in_eqB ha hb hu hv
        exact in2 this.1 this.2
      · obtain ⟨e1, e2, e3⟩ := h7 rfl
        rw [e3]; rw [e1] at ha hu; rw [e2] at hb hv
        obtain ⟨l, h, q1, h1, h2, h3⟩ := ha.one
        obtain ⟨l', h', q2, k1, k2, k3⟩ := hb.one
        obtain ⟨n, q3, i1, i2⟩ := hu.one
        obtain ⟨m, q4, j1, j2⟩ := hv.one
        rw [q1] at i1 i2; rw [q2] at j1 j2
        rw [q1, q2, q3, q4]
        show InB 2 (lessB (nb l h) (nb l' h')) ⟨2, 0, decide (n < m), []⟩
        have := in_lessN (q := decide (n < m)) (n := n) (m := m) (by simp) i1 i2 j1 j2
        exact in2 this.1 this.2
      · rw [(h8 (by decide)).2.2]
        obtain ⟨l, h, l', h', n, m, q1, q2, q3, q4, h1, h2, h3, k1, k2, k3, i1, i2, j1, j2⟩ := num (by decide)
        rw [q1, q2, q3, q4]
        show InB 1 (nb (lim (w64 (l + l'))) (lim (w64 (h + h')))) ⟨1, lim (w64 (n + m)), false, []⟩
        rw [w64_in (by omega) (by omega), w64_in (by omega) (by omega), w64_in (by omega) (by omega)]
        exact in1 (lim_le (by omega)) (lim_le (by omega))
      · rw [(h8 (by decide)).2.2]
        obtain ⟨l, h, l', h', n, m, q1, q2, q3, q4, h1, h2, h3, k1, k2, k3, i1, i2, j1, j2⟩ := num (by decide)
        rw [q1, q2, q3, q4]
        show InB 1 (nb (lim (w64 (l - h'))) (lim (w64 (h - l')))) ⟨1, lim (w64 (n - m)), false, []⟩
        rw [w64_in (by omega) (by omega), w64_in (by omega) (by omega), w64_in (by omega) (by omega)]
        exact in1 (lim_le (by omega)) (lim_le (by omega))
      · rw [(h8 (by decide)).2.2]
        obtain ⟨l, h, l', h', n, m, q1, q2, q3, q4, h1, h2, h3, k1, k2, k3, i1, i2, j1, j2⟩ := num (by decide)
        rw [q1, q2, q3, q4]
        show InB 1 (times (nb l h) (nb l' h')) ⟨1, lim (w64 (n * m)), false, []⟩
        have hs := mul_small (x := n) (y := m) (by omega) (by omega) (by omega) (by omega)
        rw [w64_in hs.1 hs.2, times_eq h1 h2 h3 k1 k2 k3]
        have := mul_corners i1 i2 j1 j2
        exact in1 (lim_le this.1) (lim_le this.2)
      · rw [(h8 (by decide)).2.2]
        obtain ⟨l, h, l', h', n, m, q1, q2, q3, q4, h1, h2, h3, k1, k2, k3, i1, i2, j1, j2⟩ := num (by decide)
        rw [q1, q2, q3, q4]
        show InB 1 (nb (imin l l') (imin h h')) ⟨1, imin n m, false, []⟩
        exact in1 (imin_mono i1 j1) (imin_mono i2 j2)
      · rw [(h8 (by decide)).2.2]
        obtain ⟨l, h, l', h', n, m, q1, q2, q3, q4, h1, h2, h3, k1, k2, k3, i1, i2, j1, j2⟩ := num (by decide)
        rw [q1, q2, q3, q4]
        show InB 1 (nb (imax l l') (imax h h')) ⟨1, imax n m, false, []⟩
        exact in1 (imax_mono i1 j1) (imax_mono i2 j2)
    · simp only [Ex.sizes] at hk
      have hu := ih y (by omega) (by omega)
      have hv := ih z (by omega) hy
      have hw := ih w (by omega) (by omega)
      have ha := ihb y (by omega)
      have hb := ihb z hy
      have hc := ihb w (by omega)
      rw [hT]
      rw [hx] at ha hu
      rw [hz] at hc hw
      obtain ⟨p, q3, i1, i2⟩ := hu.two
      simp only [List.map_cons, List.map_nil, headBd]
      rw [headVal_op (by omega) (by omega)]
      simp only [opVal, q3]
      split
      · rename_i e
        have hp : p = true := by
          cases p
          · rw [e] at i1; exact absurd i1 (by decide)
          · rfl
        subst hp
        exact hv
      · split
        · rename_i e
          have hp : p = false := by
            cases p
            · rfl
            · rw [e] at i2; exact absurd i2 (by decide)
          subst hp
          exact hw
        · cases p
          · exact in_either hb hc (.inr hw)
          · exact in_either hb hc (.inl hv)
end Go.AM
set_option maxRecDepth 20000
namespace Go.AM
def Bq (a b : Bd) : Prop := a.lo = b.lo ∧ a.hi = b.hi ∧ a.ws = b.ws ∧ a.some = b.some ∧ a.text = b.text
theorem Bq.refl (a : Bd) : Bq a a := ⟨rfl, rfl, rfl, rfl, rfl⟩
theorem Bq.of_eq {a b : Bd} (h : a = b) : Bq a b := h ▸ Bq.refl a
theorem Bq.trans {a b c : Bd} (h : Bq a b) (h2 : Bq b c) : Bq a c := ⟨h.1.trans h2.1, h.2.1.trans h2.2.1, h.2.2.1.trans h2.2.2.1, h.2.2.2.1.trans h2.2.2.2.1, h.2.2.2.2.trans h2.2.2.2.2⟩
theorem opBd_bq {op : Int} {a b c d : Bd} (h : Bq a c) (h2 : Bq b d) : opBd op a b = opBd op c d := by
  obtain ⟨al, ah, an, aw, as, at'⟩ := a
  obtain ⟨bl, bh, bn, bw, bs, bt⟩ := b
  obtain ⟨cl, ch, cn, cw, cs, ct⟩ := c
  obtain ⟨dl, dh, dn, dw, ds, dt⟩ := d
  obtain ⟨h1, h3, h4, h5, h6⟩ := h
  obtain ⟨k1, k3, k4, k5, k6⟩ := h2
  dsimp only at *
  subst_vars
  rfl
theorem either_bq {a b c d : Bd} (h : Bq a c) (h2 : Bq b d) : either a b = either c d := by
  obtain ⟨al, ah, an, aw, as, at'⟩ := a
  obtain ⟨bl, bh, bn, bw, bs, bt⟩ := b
  obtain ⟨cl, ch, cn, cw, cs, ct⟩ := c
  obtain ⟨dl, dh, dn, dw, ds, dt⟩ := d
  obtain ⟨h1, h3, h4, h5, h6⟩ := h
  obtain ⟨k1, k3, k4, k5, k6⟩ := h2
  dsimp only at *
  subst_vars
  rfl
theorem conE_bq {t : Int} {a c : Bd} (h : Bq a c) : conE t a = conE t c := by
  obtain ⟨al, ah, an, aw, as, at'⟩ := a
  obtain ⟨cl, ch, cn, cw, cs, ct⟩ := c
  obtain ⟨h1, h3, h4, h5, h6⟩ := h
  dsimp only at *
  subst_vars
  rfl
def Bqs : List Bd → List Bd → Prop
  | [], [] => True
  | a :: as, b :: bs => Bq a b ∧ Bqs as bs
  | _, _ => False
theorem headBd_bq {K : Int → Bd} {op var : Int} {val : Va} : ∀ {as bs : List Bd}, Bqs as bs → Bq (headBd K op var val as) (headBd K op var val bs)
  | [], [], _ => Bq.refl _
  | [a], [b], h => by
    simp only [headBd, h.1.1, h.1.2.1]
    exact Bq.refl _
  | [a, a'], [b, b'], h => Bq.of_eq (opBd_bq h.1 h.2.1)
  | [a, a', a''], [b, b', b''], h => by
    simp only [headBd, h.1.1, h.1.2.1]
    split
    · exact h.2.1
    · split
      · exact h.2.2.1
      · exact Bq.of_eq (either_bq h.2.1 h.2.2.1)
  | a :: a' :: a'' :: a3 :: as, b :: b' :: b'' :: b3 :: bs, h => Bq.refl _
theorem pick_bq {op : Int} : ∀ {as bs : List Bd} {ss rs : List Ex}, Bqs as bs → ss.length = rs.length → pick op bs rs = none → pick op as ss = none
  | [a, a', a''], [b, b', b''], [s, s', s''], [r, r', r''], h, _, hp => by
    simp only [pick, h.1.1, h.1.2.1] at hp ⊢
    split at hp
    · rename_i e; rw [if_pos e]
      split at hp
      · cases hp
      · split at hp
        · cases hp
        · simp_all
    · rename_i e; rw [if_neg e]
  | [a, a'], [b, b'], [s, s'], [r, r'], h, _, hp => by
    simp only [pick, h.1.1, h.1.2.1, h.2.1.1, h.2.1.2.1] at hp ⊢
    repeat' split at hp
    all_goals first | (cases hp; done) | (simp_all; done)
  | [], _, ss, _, _, _, _ => by cases ss <;> rfl
  | [_], _, ss, _, _, _, _ => by rcases ss with _ | ⟨_, _ | ⟨_, _⟩⟩ <;> rfl
  | _ :: _ :: _ :: _ :: _, _, ss, _, _, _, _ => by rcases ss with _ | ⟨_, _ | ⟨_, _ | ⟨_, _⟩⟩⟩ <;> rfl
  | [_, _], _, [], _, _, _, _ => rfl
  | [_, _], _, [_], _, _, _, _ => rfl
  | [_, _], _, _ :: _ :: _ :: _, _, _, _, _ => rfl
  | [_, _, _], _, [], _, _, _, _ => rfl
  | [_, _, _], _, [_], _, _, _, _ => rfl
  | [_, _, _], _, [_, _], _, _, _, _ => rfl
  | [_, _, _], _, _ :: _ :: _ :: _ :: _, _, _, _, _ => rfl
  | [_, _], [], [_, _], _, h, _, _ => h.elim
  | [_, _], [_], [_, _], _, h, _, _ => h.2.elim
  | [_, _], _ :: _ :: _ :: _, [_, _], _, h, _, _ => h.2.2.elim
  | [_, _, _], [], [_, _, _], _, h, _, _ => h.elim
  | [_, _, _], [_], [_, _, _], _, h, _, _ => h.2.elim
  | [_, _, _], [_, _], [_, _, _], _, h, _, _ => h.2.2.elim
  | [_, _, _], _ :: _ :: _ :: _ :: _, [_, _, _], _, h, _, _ => h.2.2.2.elim
  | [_, _], [_, _], [_, _], [], _, hl, _ => by simp at hl
  | [_, _], [_, _], [_, _], [_], _, hl, _ => by simp at hl
  | [_, _], [_, _], [_, _], _ :: _ :: _ :: _, _, hl, _ => by simp at hl
  | [_, _, _], [_, _, _], [_, _, _], [], _, hl, _ => by simp at hl
  | [_, _, _], [_, _, _], [_, _, _], [_], _, hl, _ => by simp at hl
  | [_, _, _], [_, _, _], [_, _, _], [_, _], _, hl, _ => by simp at hl
  | [_, _, _], [_, _, _], [_, _, _], _ :: _ :: _ :: _ :: _, _, hl, _ => by simp at hl
theorem cEx_typ {v : Va} (h : v.right = true) : (cEx v).typ = v.t := by
  rw [cEx, Ex.typ_eq]
  simp [headT, okHead, many, h]
theorem con_self {v : Va} (hr : v.right = true) : conE v.t (constBd v) = some (cEx v) := by
  have hr0 := hr
  unfold Va.right at hr
  obtain ⟨t, n, b, s⟩ := v
  dsimp only at hr ⊢
  split at hr
  · rename_i e
    subst e
    simp at hr
    obtain ⟨⟨_, rfl⟩, rfl⟩ := hr
    simp [conE, constBd, nb]
  · split at hr
    · rename_i e
      subst e
      simp at hr
      obtain ⟨rfl, rfl⟩ := hr
      cases b <;> simp [conE, constBd, nb]
    · split at hr
      · rename_i e
        subst e
        simp at hr
        obtain ⟨⟨⟨_, rfl⟩, rfl⟩, _⟩ := hr
        simp only [conE, constBd, if_true, hr0]
      · cases hr
theorem con_of {t : Int} {b : Bd} {c : Ex} (hb : BN t b) (h : conE t b = some c) : ∃ v, c = cEx v ∧ v.right = true ∧ v.t = t ∧ Bq (constBd v) b ∧ ∀ u, InB t b u → u = v := by
  rcases hb.t with rfl | rfl | rfl
  · obtain ⟨lo, hi, rfl, h1, h2, h3⟩ := hb.one
    unfold conE at h
    rw [if_neg (by decide)] at h
    change (if lo = hi then some (cEx ⟨1, lo, false, []⟩) else none) = some c at h
    split at h
    · rename_i e
      injection h with h
      subst e
      refine ⟨⟨1, lo, false, []⟩, h.symm, by simp [Va.right]; omega, rfl, ⟨rfl, rfl, rfl, rfl, rfl⟩, fun u hu => ?_⟩
      obtain ⟨n, rfl, i1, i2⟩ := hu.one
      simp only [nb] at i1 i2
      obtain rfl : n = lo := by omega
      rfl
    · cases h
  · obtain ⟨lo, hi, rfl, h1, h2, h3⟩ := hb.two
    unfold conE at h
    rw [if_neg (by decide)] at h
    change (if lo = hi then some (cEx ⟨2, 0, decide (lo = 1), []⟩) else none) = some c at h
    split at h
    · rename_i e
      injection h with h
      subst e
      refine ⟨⟨2, 0, decide (lo = 1), []⟩, h.symm, by simp [Va.right], rfl, ?_, fun u hu => ?_⟩
      · have : lo = 0 ∨ lo = 1 := by omega
        rcases this with rfl | rfl <;> exact ⟨rfl, rfl, rfl, rfl, rfl⟩
      · obtain ⟨p, rfl, i1, i2⟩ := hu.two
        simp only [nb] at i1 i2
        have : lo = 0 ∨ lo = 1 := by omega
        rcases this with rfl | rfl <;> cases p <;> simp [bi] at i1 i2 ⊢
    · cases h
  · obtain ⟨nl, ws, rfl⟩ := hb.three
    simp only [conE, if_true] at h
    split at h
    · rename_i s
      split at h
      · rename_i hr
        injection h with h
        refine ⟨⟨3, 0, false, s⟩, h.symm, hr, rfl, ⟨rfl, rfl, rfl, rfl, rfl⟩, fun u hu => ?_⟩
        obtain ⟨r, rfl, i1⟩ := hu.three
        have := i1 (by simp)
        simp at this
        rw [this]
      · cases h
    · cases h
structure SimOk (K : Int → Bd) (e : Ex) : Prop where
  typ : (e.sim K).typ = e.typ
  bd : Bq ((e.sim K).bd K) (e.bd K)
  idem : (e.sim K).sim K = e.sim K
  val : ∀ x : Envi, (∀ v, varT v ≠ 0 → InB (varT v) (K v) (x.val v)) → (e.sim K).eval x = e.eval x
theorem bqs_map {K : Int → Bd} : ∀ {l : List Ex}, (∀ y ∈ l, SimOk K y) → Bqs ((l.map (Ex.sim K)).map (Ex.bd K)) (l.map (Ex.bd K))
  | [], _ => trivial
  | y :: l, h => ⟨(h y (by simp)).bd, bqs_map fun z hz => h z (by simp [hz])⟩
theorem sim_node {K : Int → Bd} {op var : Int} {val : Va} {nl : Bool} {l : List Ex} (hm : ∀ y ∈ l, SimOk K y) (hc : conE (Ex.mk op var val nl l).typ ((Ex.mk op var val nl l).bd K) = none)
    (hp : pick op (l.map (Ex.bd K)) (l.map (Ex.sim K)) = none) : SimOk K (.mk op var val nl l) := by
  have e : (Ex.mk op var val nl l).sim K = .mk op var val true (l.map (Ex.sim K)) := by rw [Ex.sim_eq, hc]; simp only [simHead, hp]
  have ht : (Ex.mk op var val true (l.map (Ex.sim K))).typ = (Ex.mk op var val nl l).typ := by
    rw [Ex.typ_eq, Ex.typ_eq, List.length_map, List.map_map]
    congr 1
    exact List.map_congr_left fun y hy => (hm y hy).typ
  have hb : Bq ((Ex.mk op var val true (l.map (Ex.sim K))).bd K) ((Ex.mk op var val nl l).bd K) := by
    rw [Ex.bd_eq, Ex.bd_eq]
    exact headBd_bq (bqs_map hm)
  have hi : (l.map (Ex.sim K)).map (Ex.sim K) = l.map (Ex.sim K) := by
    rw [List.map_map]
    exact List.map_congr_left fun y hy => (hm y hy).idem
  refine ⟨by rw [e, ht], by rw [e]; exact hb, ?_, fun x hx => ?_⟩
  · rw [e, Ex.sim_eq, ht, conE_bq hb, hc, hi]
    have : pick op ((l.map (Ex.sim K)).map (Ex.bd K)) (l.map (Ex.sim K)) = none := pick_bq (bqs_map hm) rfl hp
    simp only [simHead, this]
  · rw [e, Ex.eval_eq, Ex.eval_eq, List.map_map]
    congr 1
    exact List.map_congr_left fun y hy => (hm y hy).val x hx
theorem sim_mem {K : Int → Bd} {op var : Int} {val : Va} {nl : Bool} {l : List Ex} {y : Ex} (hm : SimOk K y) (hc : conE (Ex.mk op var val nl l).typ ((Ex.mk op var val nl l).bd K) = none)
    (hp : pick op (l.map (Ex.bd K)) (l.map (Ex.sim K)) = some (y.sim K)) (ht : y.typ = (Ex.mk op var val nl l).typ) (hb : y.bd K = (Ex.mk op var val nl l).bd K)
    (hv : ∀ x : Envi, (∀ v, varT v ≠ 0 → InB (varT v) (K v) (x.val v)) → y.eval x = (Ex.mk op var val nl l).eval x) : SimOk K (.mk op var val nl l) := by
  have e : (Ex.mk op var val nl l).sim K = y.sim K := by rw [Ex.sim_eq, hc]; simp only [simHead, hp]
  exact ⟨by rw [e, hm.typ, ht], by rw [e, ← hb]; exact hm.bd, by rw [e]; exact hm.idem, fun x hx => by rw [e, hm.val x hx, hv x hx]⟩
theorem least_one {a b : Bd} (ha : BN 2 a) (hb : BN 2 b) : (a.lo = 1 → least a b = b) ∧ (b.lo = 1 → least a b = a) := by
  obtain ⟨l, h, rfl, h1, h2, h3⟩ := ha.two
  obtain ⟨l', h', rfl, k1, k2, k3⟩ := hb.two
  rw [least_eq]
  refine ⟨fun e => ?_, fun e => ?_⟩
  · simp only [nb] at e
    rw [show imin l l' = l' by unfold imin; split <;> omega, show imin h h' = h' by unfold imin; split <;> omega]
  · simp only [nb] at e
    rw [show imin l l' = l by unfold imin; split <;> omega, show imin h h' = h by unfold imin; split <;> omega]
theorem greatest_nil {a b : Bd} (ha : BN 2 a) (hb : BN 2 b) : (a.hi = 0 → greatest a b = b) ∧ (b.hi = 0 → greatest a b = a) := by
  obtain ⟨l, h, rfl, h1, h2, h3⟩ := ha.two
  obtain ⟨l', h', rfl, k1, k2, k3⟩ := hb.two
  rw [greatest_eq]
  refine ⟨fun e => ?_, fun e => ?_⟩
  · simp only [nb] at e
    rw [show imax l l' = l' by unfold imax; split <;> omega, show imax h h' = h' by unfold imax; split <;> omega]
  · simp only [nb] at e
    rw [show imax l l' = l by unfold imax; split <;> omega, show imax h h' = h by unfold imax; split <;> omega]
theorem in_yes {b : Bd} {v : Va} (h : InB 2 b v) (e : b.lo = 1) : v = ⟨2, 0, true, []⟩ := by
  obtain ⟨p, rfl, i1, i2⟩ := h.two
  cases p
  · rw [e] at i1; exact absurd i1 (by decide)
  · rfl
theorem in_no {b : Bd} {v : Va} (h : InB 2 b v) (e : b.hi = 0) : v = ⟨2, 0, false, []⟩ := by
  obtain ⟨p, rfl, i1, i2⟩ := h.two
  cases p
  · rfl
  · rw [e] at i2; exact absurd i2 (by decide)
theorem sim_ok {K : Int → Bd} (hK : ∀ v, varT v ≠ 0 → BN (varT v) (K v)) : ∀ (k : Nat) (e : Ex), e.size ≤ k → e.typ ≠ 0 → SimOk K e
  | 0, e, hk, _ => by have := e.size_pos; omega
  | k + 1, .mk op var val nl l, hk, ht => by
    have ih := sim_ok hK k
    have ihb := fun (e : Ex) => bd_bn hK e.size e (Nat.le_refl _)
    have ihv := fun (x : Envi) (hx : ∀ v, varT v ≠ 0 → InB (varT v) (K v) (x.val v)) (e : Ex) => eval_in hK hx e.size e (Nat.le_refl _)
    have hb := ihb _ ht
    have hv := fun (x : Envi) hx => ihv x hx _ ht
    simp only [Ex.size] at hk
    cases hc : conE (Ex.mk op var val nl l).typ ((Ex.mk op var val nl l).bd K) with
    | some c =>
      have e : (Ex.mk op var val nl l).sim K = c := by rw [Ex.sim_eq, hc]; rfl
      obtain ⟨v, rfl, hr, hvt, hq, hu⟩ := con_of hb hc
      refine ⟨by rw [e, cEx_typ hr, hvt], by rw [e]; exact hq, ?_, fun x hx => ?_⟩
      · rw [e]
        have h2 := con_self hr
        rw [← cEx_typ hr] at h2
        rw [show cEx v = Ex.mk 1 0 v false [] from rfl, Ex.sim_eq]
        rw [show conE (Ex.mk 1 0 v false []).typ ((Ex.mk 1 0 v false []).bd K) = some (cEx v) from h2]
        rfl
      · rw [e]; exact (hu _ (hv x hx)).symm
    | none =>
      rcases typ_cases ht with ⟨rfl, rfl, rfl, hr, hT⟩ | ⟨rfl, rfl, rfl, hv, hT⟩ | ⟨y, rfl, rfl, rfl, rfl, hx, hT⟩ | ⟨y, z, ho, rfl, rfl, rfl, hx, hy, hT3, h6, h45, h7, h8⟩ | ⟨y, z, w, rfl, rfl, rfl, rfl, hx, hy, hz, hT⟩
      · have h2 := con_self hr
        rw [hT] at hc
        rw [show (Ex.mk 1 0 val nl []).bd K = constBd val from rfl, h2] at hc
        cases hc
      · exact sim_node (by simp) hc rfl
      · simp only [Ex.sizes] at hk
        refine sim_node ?_ hc rfl
        intro u hu
        simp at hu; subst hu
        exact ih u (by omega) (by omega)
      · simp only [Ex.sizes] at hk
        have iy := ih y (by omega) hx
        have iz := ih z (by omega) hy
        have node : pick op ([y, z].map (Ex.bd K)) ([y, z].map (Ex.sim K)) = none → SimOk K (.mk op 0 zeroVa nl [y, z]) := fun hp => by
          refine sim_node ?_ hc hp
          intro u hu
          simp at hu
          rcases hu with rfl | rfl
          · exact iy
          · exact iz
        have by_ := ihb y hx
        have bz := ihb z hy
        by_cases h4 : op = 4
        · subst h4
          obtain ⟨e1, e2, e3⟩ := h45 (.inl rfl)
          rw [e1] at by_; rw [e2] at bz
          have hl := least_one by_ bz
          by_cases c1 : (y.bd K).lo = 1
          · refine sim_mem iz hc (by simp [pick, c1]) (by rw [e3, e2]) ?_ ?_
            · rw [Ex.bd_eq]; exact (hl.1 c1).symm
            · intro x hx'
              have v1 := ihv x hx' y hx
              have v2 := ihv x hx' z hy
              rw [e1] at v1; rw [e2] at v2
              obtain ⟨q, q4, _, _⟩ := v2.two
              rw [Ex.eval_eq, List.map_cons, List.map_cons, List.map_nil, in_yes v1 c1, q4]
              cases q <;> rfl
          · by_cases c2 : (z.bd K).lo = 1
            · refine sim_mem iy hc (by simp [pick, c1, c2]) (by rw [e3, e1]) ?_ ?_
              · rw [Ex.bd_eq]; exact (hl.2 c2).symm
              · intro x hx'
                have v1 := ihv x hx' y hx
                have v2 := ihv x hx' z hy
                rw [e1] at v1; rw [e2] at v2
                obtain ⟨q, q4, _, _⟩ := v1.two
                rw [Ex.eval_eq, List.map_cons, List.map_cons, List.map_nil, in_yes v2 c2, q4]
                cases q <;> rfl
            · exact node (by simp [pick, c1, c2])
        · by_cases h5 : op = 5
          · subst h5
            obtain ⟨e1, e2, e3⟩ := h45 (.inr rfl)
            rw [e1] at by_; rw [e2] at bz
            have hl := greatest_nil by_ bz
            by_cases c1 : (y.bd K).hi = 0
            · refine sim_mem iz hc (by simp [pick, c1]) (by rw [e3, e2]) ?_ ?_
              · rw [Ex.bd_eq]; exact (hl.1 c1).symm
              · intro x hx'
                have v1 := ihv x hx' y hx
                have v2 := ihv x hx' z hy
                rw [e1] at v1; rw [e2] at v2
                obtain ⟨q, q4, _, _⟩ := v2.two
                rw [Ex.eval_eq, List.map_cons, List.map_cons, List.map_nil, in_no v1 c1, q4]
                cases q <;> rfl
            · by_cases c2 : (z.bd K).hi = 0
              · refine sim_mem iy hc (by simp [pick, c1, c2]) (by rw [e3, e1]) ?_ ?_
                · rw [Ex.bd_eq]; exact (hl.2 c2).symm
                · intro x hx'
                  have v1 := ihv x hx' y hx
                  have v2 := ihv x hx' z hy
                  rw [e1] at v1; rw [e2] at v2
                  obtain ⟨q, q4, _, _⟩ := v1.two
                  rw [Ex.eval_eq, List.map_cons, List.map_cons, List.map_nil, in_no v2 c2, q4]
                  cases q <;> rfl
              · exact node (by simp [pick, c1, c2])
          · exact node (by simp [pick, h4, h5])
      · simp only [Ex.sizes] at hk
        have iy := ih y (by omega) (by omega)
        have iz := ih z (by omega) hy
        have iw := ih w (by omega) (by omega)
        by_cases c1 : (y.bd K).lo = 1
        · refine sim_mem iz hc (by simp [pick, c1]) hT.symm ?_ ?_
          · rw [Ex.bd_eq]; simp [headBd, c1]
          · intro x hx'
            have v1 := ihv x hx' y (by omega)
            rw [hx] at v1
            rw [Ex.eval_eq, List.map_cons, List.map_cons, List.map_cons, List.map_nil, in_yes v1 c1]
            rfl
        · by_cases c2 : (y.bd K).hi = 0
          · refine sim_mem iw hc (by simp [pick, c1, c2]) (by rw [hz, hT]) ?_ ?_
            · rw [Ex.bd_eq]; simp [headBd, c1, c2]
            · intro x hx'
              have v1 := ihv x hx' y (by omega)
              rw [hx] at v1
              rw [Ex.eval_eq, List.map_cons, List.map_cons, List.map_cons, List.map_nil, in_no v1 c2]
              rfl
          · refine sim_node ?_ hc (by simp [pick, c1, c2])
            intro u hu
            simp at hu
            rcases hu with rfl | rfl | rfl
            · exact iy
            · exact iz
            · exact iw
end Go.AM
