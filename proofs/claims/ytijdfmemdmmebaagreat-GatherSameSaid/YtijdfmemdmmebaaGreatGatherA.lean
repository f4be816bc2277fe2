/-
  Texts of the proof, joined by program: SGatherA, AmSqrt, SExact, SGatherB, SSortA, SSortE, SSortE2, SGatherC, SGatherD, SGatherE, SGatherF. Own work.
-/
import Derived.Test.YtijdfmemdmmebaaGreatData
import Derived.Test.YtijdfmemdmmebaaGreatBase
import Derived.KernelRfl
set_option linter.unusedSimpArgs false
set_option linter.unusedVariables false
set_option maxRecDepth 20000
namespace Go.AM

def findP (ps : List Place) (id : Int) : Int := firstIdx (fun p => decide (p.id = id)) ps

theorem find1_ev (p : Place) (id : Int) : Ev E 34 [p.v, .eptr (vi id) 0] ⟨.bool (decide (p.id = id)), []⟩ := by
  refine Ev.of_s' E_34 (X_34 _) rfl ?_
  (conv => whnf); repeat' ((first | intro g | refine st ?_ | (first | refine b1 ?_ ?_ | refine b2 ?_ ?_ | refine Br.mk ?_ ?_) <;> intro hc | exact rfl) <;> conv => whnf)

theorem indexFunc_ev {l : List Place} {g : Nat} {caps : List V} (hc : V.arePure caps = true) {p : Place → Bool} (hlen : l.length < 4611686018427387904)
    (hp : ∀ x, Ev E g (x.v :: caps) ⟨.bool (p x), []⟩) (hm : modesOf E g = []) : Ev E 33 [.lit 7 (l.map Place.v), .fn g caps] ⟨vi (firstIdx p l), []⟩ := by
  refine Ev.of_s' E_33 (X_33 _) rfl ?_
  (conv => whnf); repeat' ((first | intro g | refine st ?_ | (first | refine b1 ?_ ?_ | refine b2 ?_ ?_ | refine Br.mk ?_ ?_) <;> intro hc | exact rfl) <;> conv => whnf)
  refine LoopS.by (fun i : Nat => ⟨[(0, .lit 7 (l.map Place.v)), (1, .fn g caps), (7, vnat (l.map Place.v).length), (8, vnat i)], []⟩) (fun i => i ≤ l.length ∧ ∀ (j : Nat) y, j < i → l[j]? = some y → p y = false) (fun i => l.length - i) 0 ?_ ?_ ?_
  · (refine ⟨?_, ?_⟩ <;> repeat' (first | exact True.intro | refine ai ?_ | refine And.intro ?_ ?_))
  · simp
  rintro i ⟨hi, hno⟩
  have hcap := hc
  (conv => whnf); repeat' ((first | intro g | refine sAct_fn (by assumption) (by first | assumption | rfl | (simp only [V.arePure, V.isPure, Bool.and_self, Bool.true_and, Bool.and_true, *])) (hp _) rfl ?_ | refine st ?_ | (first | refine b1 ?_ ?_ | refine b2 ?_ ?_ | refine Br.mk ?_ ?_) <;> intro hc | exact rfl) <;> conv => whnf)
  · rw [firstIdx_found hno (get_lt (by omega)) hc]
  · refine NxtS.mk (i+1) (by first | omega | (dsimp only; omega)) ?_ (by (refine ⟨?_, ?_⟩ <;> repeat' (first | exact True.intro | refine ai ?_ | refine And.intro ?_ ?_)))
    refine ⟨by omega, fun j y hj hy => ?_⟩
    by_cases e : j = i
    · subst e
      rw [get_lt (by omega)] at hy
      injection hy with hy; subst hy; exact hc
    · exact hno j y (by omega) hy
  · rw [firstIdx_none fun j y hy => hno j y (by have := (List.getElem?_eq_some_iff.1 hy).1; omega) hy]

def canPP (place into : Int) (a b : Place) : Int :=
  if place = into ∨ a.cls ≠ b.cls ∨ b.weight < a.weight ∨ (a.weight = b.weight ∧ a.id < b.id) then 1
  else if a.dist ≠ b.dist then 25
  else if a.name ≠ [] ∧ b.name ≠ [] ∧ a.name ≠ b.name then 24
  else 0
def canP (ps : List Place) (place into : Int) : Int :=
  if 0 ≤ findP ps place ∧ 0 ≤ findP ps into then
    match ps[(findP ps place).toNat]?, ps[(findP ps into).toNat]? with
    | some a, some b => canPP place into a b
    | _, _ => 0
  else 5

/-- numbers that are there, numbers that are not -/
theorem find_cases (ps : List Place) (id : Int) : findP ps id = -1 ∨ ∃ (i : Nat) (x : Place), findP ps id = (i : Int) ∧ ps[i]? = some x ∧ x.id = id := by
  rcases firstIdx_cases (fun p : Place => decide (p.id = id)) ps with h | ⟨i, x, h1, h2, h3⟩
  · exact .inl h.1
  · exact .inr ⟨i, x, h1, h2, by simpa using h3⟩

section
variable {m : GMap} (hlen : m.places.length < 1000000)
include hlen

theorem find_ev (id : Int) : Ev E 19 [m.v, vi id] ⟨vi (findP m.places id), []⟩ := by
  refine Ev.of_s' E_19 (X_19 _) rfl ?_
  (conv => whnf); repeat' ((first | intro g | refine CallS.mk _ (indexFunc_ev rfl (by omega) (fun x => find1_ev x id) rfl) ?_ | refine st ?_ | (first | refine b1 ?_ ?_ | refine b2 ?_ ?_ | refine Br.mk ?_ ?_) <;> intro hc | exact rfl) <;> conv => whnf)
  all_goals rfl

theorem both_ev (i k : Int) : Ev E 15 [m.v, vi i, vi k] ⟨.tuple [vi (findP m.places i), vi (findP m.places k), .bool (decide (0 ≤ findP m.places i) && decide (0 ≤ findP m.places k))], []⟩ := by
  have h := find_ev hlen
  refine Ev.of_s' E_15 (X_15 _) rfl ?_
  (conv => whnf); repeat' ((first | intro g | refine CallS.mk _ (h _) ?_ | refine st ?_ | (first | refine b1 ?_ ?_ | refine b2 ?_ ?_ | refine Br.mk ?_ ?_) <;> intro hc | exact rfl) <;> conv => whnf)
  all_goals simp [hc]

set_option maxHeartbeats 1000000 in
theorem can_ev (place into : Int) : Ev E 8 [m.v, vi place, vi into] ⟨vi (canP m.places place into), []⟩ := by
  have h := both_ev hlen place into
  rcases find_cases m.places place with h1 | ⟨i, a, h1, ha, hia⟩
  · have r : canP m.places place into = 5 := by simp [canP, h1]
    rw [h1] at h; rw [r]
    refine Ev.of_s' E_8 (X_8 _) rfl ?_
    (conv => whnf); repeat' ((first | intro g | refine CallS.mk _ (h) ?_ | refine st ?_ | (first | refine b1 ?_ ?_ | refine b2 ?_ ?_ | refine Br.mk ?_ ?_) <;> intro hc | exact rfl) <;> conv => whnf)
    all_goals simp_all
  rcases find_cases m.places into with h2 | ⟨k, b, h2, hb, hkb⟩
  · have r : canP m.places place into = 5 := by simp [canP, h2]
    rw [h2] at h; rw [r]
    refine Ev.of_s' E_8 (X_8 _) rfl ?_
    (conv => whnf); repeat' ((first | intro g | refine CallS.mk _ (h) ?_ | refine st ?_ | (first | refine b1 ?_ ?_ | refine b2 ?_ ?_ | refine Br.mk ?_ ?_) <;> intro hc | exact rfl) <;> conv => whnf)
    all_goals simp_all
  have r : canP m.places place into = canPP place into a b := by simp [canP, h1, h2, ha, hb]
  rw [h1, h2] at h
  rw [r]
  refine Ev.of_s' E_8 (X_8 _) rfl ?_
  (conv => whnf); repeat' ((first | intro g | refine Wit.mk _ (map_get ha rfl) ?_ | refine Wit.mk _ (map_get hb rfl) ?_ | refine CallS.mk _ (h) ?_ | refine st ?_ | (first | refine b1 ?_ ?_ | refine b2 ?_ ?_ | refine Br.mk ?_ ?_) <;> intro hc | exact rfl) <;> conv => whnf)
  all_goals (show (⟨vi _, []⟩ : Res) = _; congr 2; unfold canPP; first | (simp [*]; done) | (simp [*]; omega) | (repeat' split) <;> first | rfl | (exfalso; simp_all; done) | (exfalso; simp_all; omega))
end

/-! the reference -/
section
variable {m : GMap} (hlen : m.places.length < 1000000)
include hlen
theorem rplace_ev (id : Int) : Ev E 124 [m.v, vi id] ⟨vi (findP m.places id), []⟩ := by
  refine Ev.of_s' E_124 (X_124 _) rfl ?_
  (conv => whnf); repeat' ((first | intro g | refine st ?_ | (first | refine b1 ?_ ?_ | refine b2 ?_ ?_ | refine Br.mk ?_ ?_) <;> intro hc | exact rfl) <;> conv => whnf)
  refine LoopS.by (fun (p : Nat × Nat) => ⟨[(1, vi id), (2, .ptr 48 p.2 0 0), (5, vnat p.1)], [(48, ⟨p.2, 4, false, false, some [m.v]⟩)]⟩) (fun p => p.1 ≤ m.places.length ∧ ∀ (j : Nat) y, j < p.1 → m.places[j]? = some y → y.id ≠ id) (fun p => m.places.length - p.1) (0, g) ?_ ?_ ?_
  · (refine ⟨?_, ?_⟩ <;> repeat' (first | exact True.intro | refine ai ?_ | refine And.intro ?_ ?_))
  · simp
  rintro ⟨i, g⟩ ⟨hi, hno⟩
  dsimp only at hi hno
  (conv => whnf); repeat' ((first | intro g | refine st ?_ | (first | refine b1 ?_ ?_ | refine b2 ?_ ?_ | refine Br.mk ?_ ?_) <;> intro hc | exact rfl) <;> conv => whnf)
  · have hx := get_lt (l := m.places) (i := i) (by omega)
    have : findP m.places id = i := firstIdx_found (fun j y hj hy => by simpa using hno j y hj hy) hx (by simpa using hc)
    rw [this]
  · refine NxtS.mk ((i+1, g)) (by first | omega | (dsimp only; omega)) ?_ (by (refine ⟨?_, ?_⟩ <;> repeat' (first | exact True.intro | refine ai ?_ | refine And.intro ?_ ?_)))
    refine ⟨by dsimp only; omega, fun j y hj hy => ?_⟩
    by_cases e : j = i
    · subst e
      rw [get_lt (by omega)] at hy
      injection hy with hy; subst hy; exact hc
    · exact hno j y (by dsimp only at hj; omega) hy
  · have : findP m.places id = -1 := firstIdx_none fun j y hy => by simpa using hno j y (by have := (List.getElem?_eq_some_iff.1 hy).1; omega) hy
    rw [this]

set_option maxHeartbeats 1000000 in
theorem rcan_ev (place into : Int) : Ev E 123 [m.v, vi place, vi into] ⟨vi (canP m.places place into), []⟩ := by
  have h := rplace_ev hlen
  have h5 := h place
  have h6 := h into
  rcases find_cases m.places place with h1 | ⟨i, a, h1, ha, hia⟩
  · have r : canP m.places place into = 5 := by simp [canP, h1]
    rw [h1] at h5; rw [r]
    refine Ev.of_s' E_123 (X_123 _) rfl ?_
    (conv => whnf); repeat' ((first | intro g | refine CallS.mk _ (h5) ?_ | refine CallS.mk _ (h6) ?_ | refine st ?_ | (first | refine b1 ?_ ?_ | refine b2 ?_ ?_ | refine Br.mk ?_ ?_) <;> intro hc | exact rfl) <;> conv => whnf)
    all_goals simp_all
  rcases find_cases m.places into with h2 | ⟨k, b, h2, hb, hkb⟩
  · have r : canP m.places place into = 5 := by simp [canP, h2]
    rw [h1] at h5; rw [h2] at h6; rw [r]
    refine Ev.of_s' E_123 (X_123 _) rfl ?_
    (conv => whnf); repeat' ((first | intro g | refine CallS.mk _ (h5) ?_ | refine CallS.mk _ (h6) ?_ | refine st ?_ | (first | refine b1 ?_ ?_ | refine b2 ?_ ?_ | refine Br.mk ?_ ?_) <;> intro hc | exact rfl) <;> conv => whnf)
    all_goals simp_all
  have r : canP m.places place into = canPP place into a b := by simp [canP, h1, h2, ha, hb]
  rw [h1] at h5; rw [h2] at h6
  rw [r]
  refine Ev.of_s' E_123 (X_123 _) rfl ?_
  (conv => whnf); repeat' ((first | intro g | refine Wit.mk _ (map_get ha rfl) ?_ | refine Wit.mk _ (map_get hb rfl) ?_ | refine CallS.mk _ (h5) ?_ | refine CallS.mk _ (h6) ?_ | refine st ?_ | (first | refine b1 ?_ ?_ | refine b2 ?_ ?_ | refine Br.mk ?_ ?_) <;> intro hc | exact rfl) <;> conv => whnf)
  all_goals (show (⟨vi _, []⟩ : Res) = _; congr 2; unfold canPP; first | (simp [*]; done) | (simp [*]; omega) | (repeat' split) <;> first | rfl | (exfalso; simp_all; done) | (exfalso; simp_all; omega))
end
end Go.AM

namespace Go.AM
open Ieee

theorem log2_lt_of {n k : Nat} (h : n < 2 ^ k) (h0 : n ≠ 0) : n.log2 < k := (Nat.log2_lt h0).2 h

/-- what is kept of a number whose last digit lies so -/
theorem kept_bound {mag : Nat} : Toward.even.cut false (mag <<< (52 - mag.log2)) (mag.log2 - 52) ≤ 9007199254740992 := by
  have h1 : mag < 2 ^ (mag.log2 + 1) := Nat.lt_log2_self
  have key : mag <<< (52 - mag.log2) / (1 <<< min (mag.log2 - 52) ((mag <<< (52 - mag.log2)).log2 + 2)) < 9007199254740992 := by
    by_cases he : mag.log2 ≤ 52
    · have e2 : mag.log2 - 52 = 0 := by omega
      rw [e2, Nat.zero_min]
      rw [Nat.shiftLeft_eq, Nat.shiftLeft_eq, Nat.pow_zero, Nat.mul_one, Nat.div_one]
      calc mag * 2 ^ (52 - mag.log2) < 2 ^ (mag.log2 + 1) * 2 ^ (52 - mag.log2) := Nat.mul_lt_mul_of_pos_right h1 (Nat.two_pow_pos _)
        _ = 2 ^ 53 := by rw [← Nat.pow_add]; congr 1; omega
        _ = 9007199254740992 := by decide
    · have e1 : 52 - mag.log2 = 0 := by omega
      rw [e1]
      simp only [Nat.shiftLeft_zero]
      rw [Nat.min_eq_left (by omega)]
      simp only [Nat.shiftLeft_eq, Nat.one_mul]
      refine Nat.div_lt_of_lt_mul ?_
      calc mag < 2 ^ (mag.log2 + 1) := h1
        _ = 2 ^ (mag.log2 - 52) * 2 ^ 53 := by rw [← Nat.pow_add]; congr 1; omega
        _ = 2 ^ (mag.log2 - 52) * 9007199254740992 := by congr 1
  unfold Toward.cut
  simp only
  generalize mag <<< (52 - mag.log2) / (1 <<< min (mag.log2 - 52) ((mag <<< (52 - mag.log2)).log2 + 2)) = low at key ⊢
  have hb : ∀ b : Bool, low + b.toNat ≤ 9007199254740992 := fun b => by have := Bool.toNat_le b; omega
  exact hb _

theorem nearest_bound {mag : Nat} {place : Int} (h0 : mag ≠ 0) (h1 : -1000 ≤ place + mag.log2) (h2 : place + mag.log2 ≤ 200) :
    ∃ w : Nat, double.nearest false mag place = w ∧ w ≤ 4503599627370496 * ((place + mag.log2 + 1022).toNat + 2) := by
  refine ⟨_, rfl, ?_⟩
  unfold Format.nearest
  rw [if_neg h0]
  have e1 : double.leastPlace = -1074 := by simp [Format.leastPlace, double]
  have e2 : double.fractionBits = 52 := rfl
  have e3 : double.binade = 4503599627370496 := by simp [Format.binade, double]
  have e4 : max (place + (mag.log2 : Int) - (double.fractionBits : Nat)) double.leastPlace = place + mag.log2 - 52 := by
    rw [e1, e2]; omega
  rw [e4]
  simp only [Format.word, e1, e3]
  have a1 : (place - (place + (mag.log2 : Int) - 52)).toNat = 52 - mag.log2 := by omega
  have a2 : (place + (mag.log2 : Int) - 52 - place).toNat = mag.log2 - 52 := by omega
  have a3 : (place + (mag.log2 : Int) - 52 - -1074).toNat = (place + mag.log2 + 1022).toNat := by congr 1; omega
  rw [a1, a2, a3]
  have hk := kept_bound (mag := mag)
  simp only [Bool.false_eq_true, if_false]
  refine Nat.le_trans (Nat.min_le_left _ _) ?_
  rw [Nat.mul_add, Nat.mul_comm]
  exact Nat.add_le_add_left hk _

theorem lp : double.leastPlace = -1074 := by simp [Format.leastPlace, double]
theorem bi : double.binade = 4503599627370496 := by simp [Format.binade, double]
theorem sw : double.signWeight = 9223372036854775808 := by simp [Format.signWeight, double]
theorem ir : double.infRung = 9218868437227405312 := by simp [Format.infRung, Format.binade, double]

theorem read_bound {w T : Nat} (hT : w ≤ 4503599627370496 * (T + 2)) (hT2 : T ≤ 1290) : ∃ m p, double.read w = .number false m p ∧ m < 9007199254740992 ∧ -1074 ≤ p ∧ p ≤ -1072 + (T : Int) := by
  have hq : w / 4503599627370496 ≤ T + 2 := Nat.div_le_of_le_mul hT
  have h : w ≤ 4503599627370496 * 1292 := Nat.le_trans hT (Nat.mul_le_mul_left _ (by omega))
  have hlt : w < 9223372036854775808 := Nat.lt_of_le_of_lt h (by decide)
  have hlt2 : w < 9218868437227405312 := Nat.lt_of_le_of_lt h (by decide)
  have h1 : w / 9223372036854775808 = 0 := Nat.div_eq_of_lt hlt
  have h2 : w % 9223372036854775808 = w := Nat.mod_eq_of_lt hlt
  have hneg : (w / 9223372036854775808 % 2 == 1) = false := by rw [h1]; rfl
  unfold Format.read
  simp only [lp, bi, sw, ir, h2, hneg]
  by_cases hb : w < 4503599627370496
  · simp only [hb, if_true]
    exact ⟨w, -1074, rfl, Nat.lt_trans hb (by decide), by decide, by clear h1 h2 hneg hb h hlt hlt2 hq hT; omega⟩
  · have hc := hlt2
    simp only [hb, hc, if_true, if_false]
    refine ⟨4503599627370496 + w % 4503599627370496, -1074 + ((w / 4503599627370496 - 1 : Nat) : Int), rfl, ?_, ?_, ?_⟩
    · have h9 := Nat.mod_lt w (show 0 < 4503599627370496 by decide)
      clear h1 h2 hneg hc hb h hlt hlt2 hT hq
      generalize w % 4503599627370496 = r at h9 ⊢
      omega
    · clear h1 h2 hneg hc hb h hlt hlt2 hT hq
      generalize w / 4503599627370496 - 1 = q
      omega
    · clear h1 h2 hneg hc hb h hlt hlt2 hT
      generalize w / 4503599627370496 = q at hq ⊢
      omega

theorem rootFrom_le (n : Nat) : ∀ (todo root : Nat), root * root ≤ n → Datum.rootFrom n todo root * Datum.rootFrom n todo root ≤ n
  | 0, root, h => h
  | todo + 1, root, h => by
    unfold Datum.rootFrom
    by_cases h' : (root + 1 <<< todo) * (root + 1 <<< todo) ≤ n
    · simp only [h', if_true]; exact rootFrom_le n todo _ h'
    · simp only [h', if_false]; exact rootFrom_le n todo _ h

theorem sqrt_int {n : Int} (h0 : 0 < n) (h1 : n ≤ 9223372036854775807) :
    ∃ r m, FloatKind.f64.format.sqrt (FloatKind.f64.nearest n) = some r ∧ (FloatKind.f64.decode r).toInt .zero = some m ∧ 0 ≤ m ∧ m ≤ 9223372036854775807 := by
  have hn0 : n.natAbs ≠ 0 := by omega
  have hlog : n.natAbs.log2 < 63 := log2_lt_of (by
    have : (2 : Nat) ^ 63 = 9223372036854775808 := by decide
    omega) hn0
  have eN : FloatKind.f64.nearest n = double.nearest false n.natAbs 0 := by
    have : decide (n < 0) = false := by simp; omega
    simp only [FloatKind.nearest, FloatKind.encode, FloatKind.format, Format.write, this]
  obtain ⟨w, hw, hwb⟩ := nearest_bound (mag := n.natAbs) (place := 0) hn0 (by omega) (by omega)
  obtain ⟨m, p, hr, hm, hp0, hp⟩ := read_bound hwb (by clear hwb; omega)
  clear hwb
  rw [eN, hw]
  have hpb : p ≤ 13 := by clear hm; omega
  have fin : ∀ (mag : Nat) (place : Int), mag ≠ 0 → -1000 ≤ place + mag.log2 → place + mag.log2 ≤ 59 →
      ∃ r k, double.write (.number false mag place) = r ∧ (double.read r).toInt .zero = some k ∧ 0 ≤ k ∧ k ≤ 9223372036854775807 := by
    intro mag place g0 g1 g2
    obtain ⟨w2, hw2, hwb2⟩ := nearest_bound (mag := mag) (place := place) g0 g1 (by omega)
    obtain ⟨m3, p3, hr3, hm3, hp3, hp3'⟩ := read_bound hwb2 (by clear hwb2; omega)
    clear hwb2
    have hp9 : p3 ≤ 9 := by omega
    refine ⟨w2, _, hw2, by rw [hr3]; rfl, ?_⟩
    have hcut : Toward.zero.cut false (m3 <<< p3.toNat) (-p3).toNat ≤ m3 <<< p3.toNat := by
      unfold Toward.cut
      simp only [Bool.toNat_false, Nat.add_zero]
      exact Nat.div_le_self _ _
    have hsh : m3 <<< p3.toNat ≤ m3 * 512 := by
      rw [Nat.shiftLeft_eq]
      refine Nat.mul_le_mul_left _ ?_
      calc 2 ^ p3.toNat ≤ 2 ^ 9 := Nat.pow_le_pow_right (by omega) (by omega)
        _ = 512 := by decide
    simp only [signed, Bool.false_eq_true, if_false, Nat.shiftLeft_zero]
    omega
  show ∃ r k, (((double.read w).root (double.fractionBits + 2)).map double.write) = some r ∧ (double.read r).toInt .zero = some k ∧ 0 ≤ k ∧ k ≤ 9223372036854775807
  rw [hr]
  simp only [Datum.root]
  by_cases hm0 : m = 0
  · subst hm0
    rw [if_pos rfl]
    exact ⟨0, 0, by simp [Format.write, Format.nearest, Format.word], by decide, by decide, by decide⟩
  · rw [if_neg hm0]
    simp only [Bool.false_eq_true, if_false]
    have e2 : double.fractionBits = 52 := rfl
    rw [e2]
    have hml : m.log2 < 53 := log2_lt_of (by
      have : (2 : Nat) ^ 53 = 9007199254740992 := by decide
      omega) hm0
    generalize hmore : 2 * (52 + 2) - m.log2 + ((p - (2 * (52 + 2) - m.log2 : Nat)) % 2).toNat = more
    have hmb : 56 ≤ more ∧ more ≤ 109 := by omega
    generalize hwh : Datum.rootFrom (m <<< more) ((m <<< more).log2 / 2 + 1) 0 = whole
    have hle : whole * whole ≤ m <<< more := by rw [← hwh]; exact rootFrom_le _ _ _ (by simp)
    have hbound : whole < 2 ^ 81 := by
      rw [Nat.shiftLeft_eq] at hle
      have h2 : m * 2 ^ more < 2 ^ 162 := by
        calc m * 2 ^ more < 2 ^ 53 * 2 ^ more := Nat.mul_lt_mul_of_pos_right (by
              have : (2 : Nat) ^ 53 = 9007199254740992 := by decide
              omega) (Nat.two_pow_pos _)
          _ = 2 ^ (53 + more) := by rw [← Nat.pow_add]
          _ ≤ 2 ^ 162 := Nat.pow_le_pow_right (by omega) (by omega)
      rcases Nat.lt_or_ge whole (2 ^ 81) with h | h
      · exact h
      · have : 2 ^ 81 * 2 ^ 81 ≤ whole * whole := Nat.mul_le_mul h h
        have e : (2 : Nat) ^ 81 * 2 ^ 81 = 2 ^ 162 := by rw [← Nat.pow_add]
        omega
    have hpos : m <<< more ≠ 0 := by
      rw [Nat.shiftLeft_eq]
      exact Nat.mul_ne_zero hm0 (by have := Nat.two_pow_pos more; omega)
    generalize hmag : 2 * whole + (whole * whole != m <<< more).toNat = mag2
    have hmag0 : mag2 ≠ 0 := by
      intro h
      rw [h] at hmag
      have hw0 : whole = 0 := by omega
      subst hw0
      have : (0 * 0 != m <<< more) = true := by simp; exact fun h => hpos h.symm
      rw [this] at hmag
      simp at hmag
    have hmag2 : mag2 < 2 ^ 83 := by
      have hb : (whole * whole != m <<< more).toNat ≤ 1 := Bool.toNat_le _
      have e : (2 : Nat) ^ 83 = 4 * 2 ^ 81 := by decide
      omega
    have hl2 : mag2.log2 < 83 := log2_lt_of hmag2 hmag0
    obtain ⟨r, k, g1, g2, g3, g4⟩ := fin mag2 ((p - more) / 2 - 1) hmag0 (by omega) (by omega)
    refine ⟨r, k, ?_, g2, g3, g4⟩
    simp only [Option.map_some]
    exact congrArg some g1
end Go.AM

set_option maxRecDepth 20000
namespace Go.AM

theorem isNaN_ev (x : Int) : Ev E 36 [vi x] ⟨.bool false, []⟩ := by
  refine Ev.of_s' E_36 (X_36 _) rfl ?_
  (conv => whnf); repeat' ((first | intro g | refine st ?_ | (first | refine b1 ?_ ?_ | refine b2 ?_ ?_ | refine Br.mk ?_ ?_) <;> intro hc | exact rfl) <;> conv => whnf)
  all_goals simp

def cmpI (x y : Int) : Int := if x < y then -1 else if y < x then 1 else 0

theorem compare_ev (x y : Int) : Ev E 23 [vi x, vi y] ⟨vi (cmpI x y), []⟩ := by
  refine Ev.of_s' E_23 (X_23 _) rfl ?_
  (conv => whnf); repeat' ((first | intro g | refine CallS.mk _ (isNaN_ev x) ?_ | refine CallS.mk _ (isNaN_ev y) ?_ | refine st ?_ | (first | refine b1 ?_ ?_ | refine b2 ?_ ?_ | refine Br.mk ?_ ?_) <;> intro hc | exact rfl) <;> conv => whnf)
  all_goals simp [cmpI, *]
  all_goals omega

def orI (a b : Int) : Int := if a = 0 then b else a
theorem orI_ev (a b : Int) : Ev E 22 [.lit 1 [vi a, vi b]] ⟨vi (orI a b), []⟩ := by
  refine Ev.of_s' E_22 (X_22 _) rfl ?_
  (conv => whnf); repeat' ((first | intro g | refine st ?_ | (first | refine b1 ?_ ?_ | refine b2 ?_ ?_ | refine Br.mk ?_ ?_) <;> intro hc | exact rfl) <;> conv => whnf)
  refine LoopS.by (fun i : Nat => ⟨[(3, vi 0), (6, .lit 1 [vi a, vi b]), (7, vnat 2), (8, vnat i)], []⟩) (fun i => i ≤ 2 ∧ (1 ≤ i → a = 0) ∧ (2 ≤ i → b = 0)) (fun i => 2 - i) 0 ?_ ?_ ?_
  · (refine ⟨?_, ?_⟩ <;> repeat' (first | exact True.intro | refine ai ?_ | refine And.intro ?_ ?_))
  · simp
  rintro i ⟨hi, h1, h2⟩
  rcases (by omega : i = 0 ∨ i = 1 ∨ i = 2) with rfl | rfl | rfl
  · (conv => whnf); repeat' ((first | intro g | refine st ?_ | (first | refine b1 ?_ ?_ | refine b2 ?_ ?_ | refine Br.mk ?_ ?_) <;> intro hc | exact rfl) <;> conv => whnf)
    · simp [orI, hc]
    · refine NxtS.mk (1) (by first | omega | (dsimp only; omega)) ?_ (by (refine ⟨?_, ?_⟩ <;> repeat' (first | exact True.intro | refine ai ?_ | refine And.intro ?_ ?_)))
      exact ⟨by omega, fun _ => by simpa using hc, fun h => by omega⟩
  · have ha := h1 (by omega)
    (conv => whnf); repeat' ((first | intro g | refine st ?_ | (first | refine b1 ?_ ?_ | refine b2 ?_ ?_ | refine Br.mk ?_ ?_) <;> intro hc | exact rfl) <;> conv => whnf)
    · simp [orI, ha]
    · refine NxtS.mk (2) (by first | omega | (dsimp only; omega)) ?_ (by (refine ⟨?_, ?_⟩ <;> repeat' (first | exact True.intro | refine ai ?_ | refine And.intro ?_ ?_)))
      exact ⟨by omega, fun _ => ha, fun _ => by simpa using hc⟩
  · have ha := h1 (by omega)
    have hb := h2 (by omega)
    (conv => whnf); repeat' ((first | intro g | refine st ?_ | (first | refine b1 ?_ ?_ | refine b2 ?_ ?_ | refine Br.mk ?_ ?_) <;> intro hc | exact rfl) <;> conv => whnf)
    all_goals simp [orI, ha, hb]

/-! ### the square root -/
def IsSqrt (n s : Int) : Prop := 0 ≤ s ∧ s * s ≤ n ∧ n < (s + 1) * (s + 1)
theorem sq_mono {a b : Int} (h0 : 0 ≤ a) (h : a ≤ b) : a * a ≤ b * b := Int.mul_le_mul h h h0 (by omega)
theorem IsSqrt.uniq {n s t : Int} (h : IsSqrt n s) (k : IsSqrt n t) : s = t := by
  obtain ⟨h1, h2, h3⟩ := h
  obtain ⟨k1, k2, k3⟩ := k
  rcases Int.lt_trichotomy s t with hl | hl | hl
  · have := sq_mono (a := s + 1) (b := t) (by omega) (by omega); omega
  · exact hl
  · have := sq_mono (a := t + 1) (b := s) (by omega) (by omega); omega
open Classical in
noncomputable def sqrtI (n : Int) : Int := if h : ∃ s, IsSqrt n s then h.choose else 0
theorem sqrtI_of {n s : Int} (h : IsSqrt n s) : sqrtI n = s := by
  have hex : ∃ s, IsSqrt n s := ⟨s, h⟩
  unfold sqrtI; rw [dif_pos hex]; exact hex.choose_spec.uniq h
theorem sqrtI_neg {n : Int} (h : n ≤ 0) : sqrtI n = 0 := by
  by_cases hz : n = 0
  · subst hz; exact sqrtI_of ⟨by omega, by omega, by omega⟩
  · unfold sqrtI; rw [dif_neg]
    rintro ⟨s, h1, h2, h3⟩
    have := Int.mul_nonneg h1 h1
    omega

theorem mathSqrt_ev {b r : Nat} (h : FloatKind.f64.format.sqrt b = some r) : Ev E 41 [.float b] ⟨.float r, []⟩ := by
  have hsq : Ev E 52 [.float b] ⟨.float r, []⟩ := Ev.ext (by rw [X_52]; simp [sqrtV, h])
  refine Ev.of_s' E_41 (X_41 _) rfl ?_
  (conv => whnf); repeat' ((first | intro g | refine CallS.mk _ (hsq) ?_ | refine st ?_ | (first | refine b1 ?_ ?_ | refine b2 ?_ ?_ | refine Br.mk ?_ ?_) <;> intro hc | exact rfl) <;> conv => whnf)

theorem sqrt_ev {n : Int} (h1 : n ≤ 9223372036854775807) : Ev E 27 [vi n] ⟨vi (sqrtI n), []⟩ := by
  by_cases h0 : 0 < n
  case neg =>
    rw [sqrtI_neg (by omega)]
    refine Ev.of_s' E_27 (X_27 _) rfl ?_
    (conv => whnf); repeat' ((first | intro g | refine st ?_ | (first | refine b1 ?_ ?_ | refine b2 ?_ ?_ | refine Br.mk ?_ ?_) <;> intro hc | exact rfl) <;> conv => whnf)
    all_goals trivial
  obtain ⟨r, m, hr, hm, hm0, hm1⟩ := sqrt_int h0 h1
  have e1 : IntKind.i64.min ≤ m := by simp [IntKind.min, IntKind.signed, IntKind.bits]; omega
  have e2 : m ≤ IntKind.i64.max := by simp [IntKind.max, IntKind.signed, IntKind.bits]; omega
  refine Ev.of_s' E_27 (X_27 _) rfl ?_
  (conv => whnf); repeat' ((first | intro g | refine Wit.mk _ ((⟨hm, e1, e2⟩ : _ ∧ _ ∧ _)) ?_ | refine CallS.mk _ (mathSqrt_ev hr) ?_ | refine st ?_ | (first | refine b1 ?_ ?_ | refine b2 ?_ ?_ | refine Br.mk ?_ ?_) <;> intro hc | exact rfl) <;> conv => whnf)
  generalize hs0 : (if 3037000499 < m then (3037000499 : Int) else m) = s0
  have hb0 : 0 ≤ s0 ∧ s0 ≤ 3037000499 := by split at hs0 <;> omega
  refine LoopS.by (fun s : Int => ⟨[(0, vi n), (3, vi s)], []⟩) (fun s => 0 ≤ s ∧ s ≤ 3037000499) (fun s => s.toNat) s0 ?_ hb0 ?_
  · (refine ⟨?_, ?_⟩ <;> repeat' (first | exact True.intro | refine ai ?_ | refine And.intro ?_ ?_))
  rintro s ⟨hs1, hs2⟩
  have hsq := sq_mono hs1 hs2
  have hsq0 : 0 ≤ s * s := Int.mul_nonneg hs1 hs1
  have hw : IntKind.i64.wrap (s * s) = s * s := wrap64 (by omega) (by omega)
  (conv => whnf); repeat' ((first | intro g | refine st ?_ | (first | refine b1 ?_ ?_ | refine b2 ?_ ?_ | refine Br.mk ?_ ?_) <;> intro hc | exact rfl) <;> conv => whnf)
  · rw [hw] at hc
    have : 0 < s := by
      rcases Int.lt_or_le 0 s with h | h
      · exact h
      · have : s = 0 := by omega
        subst this; omega
    refine NxtS.mk (s - 1) (by first | omega | (dsimp only; omega)) ?_ (by (refine ⟨?_, ?_⟩ <;> repeat' (first | exact True.intro | refine ai ?_ | refine And.intro ?_ ?_)))
    exact ⟨by omega, by omega⟩
  rw [hw] at hc
  refine LoopS.by (fun s : Int => ⟨[(0, vi n), (3, vi s)], []⟩) (fun s => 0 ≤ s ∧ s ≤ 3037000499 ∧ s * s ≤ n) (fun s => (3037000499 - s).toNat) s ?_ ⟨hs1, hs2, by omega⟩ ?_
  · (refine ⟨?_, ?_⟩ <;> repeat' (first | exact True.intro | refine ai ?_ | refine And.intro ?_ ?_))
  clear hw hsq hsq0 hc hs1 hs2 s
  rintro s ⟨hs1, hs2, hle⟩
  by_cases hlt : s < 3037000499
  · have hsq := sq_mono (a := s + 1) (b := 3037000499) (by omega) (by omega)
    have hsq0 : 0 ≤ (s + 1) * (s + 1) := Int.mul_nonneg (by omega) (by omega)
    have hw1 : IntKind.i64.wrap (s + 1) = s + 1 := wrap64 (by omega) (by omega)
    have hw : IntKind.i64.wrap ((s + 1) * (s + 1)) = (s + 1) * (s + 1) := wrap64 (by omega) (by omega)
    (conv => whnf); repeat' ((first | intro g | refine st ?_ | (first | refine b1 ?_ ?_ | refine b2 ?_ ?_ | refine Br.mk ?_ ?_) <;> intro hc | exact rfl) <;> conv => whnf)
    · rw [hw1, hw] at hc
      refine NxtS.mk (s + 1) (by first | omega | (dsimp only; omega)) ?_ (by (refine ⟨?_, ?_⟩ <;> repeat' (first | exact True.intro | refine ai ?_ | refine And.intro ?_ ?_)))
      exact ⟨by omega, by omega, hc⟩
    · rw [hw1, hw] at hc
      rw [sqrtI_of ⟨hs1, hle, by omega⟩]
  · (conv => whnf); repeat' ((first | intro g | refine st ?_ | (first | refine b1 ?_ ?_ | refine b2 ?_ ?_ | refine Br.mk ?_ ?_) <;> intro hc | exact rfl) <;> conv => whnf)
    have := sq_mono (a := 3037000500) (b := s + 1) (by omega) (by omega)
    rw [sqrtI_of ⟨hs1, hle, by omega⟩]

/-! the reference's root, bit by bit -/
theorem rsqrt_ev {n : Int} (hn : n ≤ 9223372036854775807) : Ev E 127 [vi n] ⟨vi (sqrtI n), []⟩ := by
  refine Ev.of_s' E_127 (X_127 _) rfl ?_
  (conv => whnf); repeat' ((first | intro g | refine st ?_ | (first | refine b1 ?_ ?_ | refine b2 ?_ ?_ | refine Br.mk ?_ ?_) <;> intro hc | exact rfl) <;> conv => whnf)
  refine LoopS.by (fun (p : Nat × Int) => ⟨[(0, vi n), (3, vi p.2), (4, vi ((p.1 : Int) - 1))], []⟩)
    (fun p => p.1 ≤ 32 ∧ 0 ≤ p.2 ∧ (p.2 * p.2 ≤ n ∨ p.2 = 0) ∧ p.2 ≤ 3037000499 ∧ (n < (p.2 + 2 ^ p.1) * (p.2 + 2 ^ p.1) ∨ 3037000500 ≤ p.2 + 2 ^ p.1)) (fun p => p.1) (32, 0) ?_ ?_ ?_
  · (refine ⟨?_, ?_⟩ <;> repeat' (first | exact True.intro | refine ai ?_ | refine And.intro ?_ ?_))
  · simp
  rintro ⟨k, s⟩ ⟨h1, h2, h3, h4, h5⟩
  dsimp only at h1 h2 h3 h4 h5
  cases k with
  | zero =>
    (conv => whnf); repeat' ((first | intro g | refine st ?_ | (first | refine b1 ?_ ?_ | refine b2 ?_ ?_ | refine Br.mk ?_ ?_) <;> intro hc | exact rfl) <;> conv => whnf)
    show (⟨vi s, []⟩ : Res) = _
    congr 2
    rw [show (2 : Int) ^ 0 = 1 from rfl] at h5
    by_cases hneg : n ≤ 0
    · rw [sqrtI_neg hneg]
      rcases h3 with h3 | h3
      · by_cases hs : s = 0
        · exact hs
        · have := Int.mul_pos (show 0 < s by omega) (show 0 < s by omega); omega
      · exact h3
    · have h3' : s * s ≤ n := by
        rcases h3 with h3 | h3
        · exact h3
        · subst h3; omega
      refine (sqrtI_of ⟨h2, h3', ?_⟩).symm
      rcases h5 with h5 | h5
      · exact h5
      · have hs : s = 3037000499 := by omega
        rw [hs, show ((3037000499 : Int) + 1) * (3037000499 + 1) = 9223372037000250000 from rfl]
        omega
  | succ j =>
    have hj : min (((j + 1 : Nat) : Int) - 1).toNat IntKind.i64.bits = j := by
      have : IntKind.i64.bits = 64 := rfl
      rw [this]; omega
    have hpos : (1 : Int) ≤ 2 ^ j := by
      have := Nat.one_le_two_pow (n := j)
      exact_mod_cast this
    have hle : (2 : Int) ^ j ≤ 2147483648 := by
      have h31 : (2 : Nat) ^ j ≤ 2147483648 := Nat.le_trans (show (2 : Nat) ^ j ≤ 2 ^ 31 from Nat.pow_le_pow_right (by omega) (by omega)) (by decide)
      have h32 : ((2 ^ j : Nat) : Int) ≤ ((2147483648 : Nat) : Int) := Int.ofNat_le.2 h31
      rw [Int.natCast_pow] at h32
      exact h32
    have h2p : (2 : Int) ^ (j + 1) = 2 * 2 ^ j := by rw [Int.pow_succ]; omega
    rw [h2p] at h5
    have hp : IntKind.i64.wrap (1 * 2 ^ min (((j + 1 : Nat) : Int) - 1).toNat IntKind.i64.bits) = 2 ^ j := by
      rw [hj, Int.one_mul]; exact wrap64 (by omega) (by omega)
    have hw : IntKind.i64.wrap (s + 2 ^ j) = s + 2 ^ j := wrap64 (by omega) (by omega)
    have hst : s + 2 ^ j + 2 ^ j = s + 2 * 2 ^ j := by omega
    have hsq : s + 2 ^ j ≤ 3037000499 → IntKind.i64.wrap ((s + 2 ^ j) * (s + 2 ^ j)) = (s + 2 ^ j) * (s + 2 ^ j) := fun h => by
      have := sq_mono (a := s + 2 ^ j) (b := 3037000499) (by omega) h
      have := Int.mul_nonneg (show 0 ≤ s + 2 ^ j by omega) (show 0 ≤ s + 2 ^ j by omega)
      exact wrap64 (by omega) (by omega)
    (conv => whnf); repeat' ((first | intro g | refine st ?_ | (first | refine b1 ?_ ?_ | refine b2 ?_ ?_ | refine Br.mk ?_ ?_) <;> intro hc | exact rfl) <;> conv => whnf)
    · rename_i hc2
      rw [hp, hw] at hc2
      rw [hp, hw, hsq hc2] at hc
      refine NxtS.mk (j, s + 2 ^ j) (by dsimp only; omega) ?_ ?_
      · exact ⟨by omega, by omega, .inl hc, hc2, by dsimp only; rw [hst]; exact h5⟩
      · have e1 : V.int .i64 (IntKind.i64.wrap (s + IntKind.i64.wrap (1 * 2 ^ min (((j + 1 : Nat) : Int) - 1).toNat IntKind.i64.bits))) = vi (s + 2 ^ j) := by rw [hp, hw]
        (refine ⟨?_, ?_⟩ <;> repeat' (first | exact True.intro | refine And.intro (e1) ?_ | refine ai ?_ | refine And.intro ?_ ?_))
    · rename_i hc2
      rw [hp, hw] at hc2
      rw [hp, hw, hsq hc2] at hc
      refine NxtS.mk (j, s) (by dsimp only; omega) ?_ (by (refine ⟨?_, ?_⟩ <;> repeat' (first | exact True.intro | refine ai ?_ | refine And.intro ?_ ?_)))
      exact ⟨by omega, by omega, h3, h4, .inl (by dsimp only; omega)⟩
    · rw [hp, hw] at hc
      refine NxtS.mk (j, s) (by dsimp only; omega) ?_ (by (refine ⟨?_, ?_⟩ <;> repeat' (first | exact True.intro | refine ai ?_ | refine And.intro ?_ ?_)))
      exact ⟨by omega, by omega, h3, h4, .inr (by dsimp only; omega)⟩
end Go.AM

set_option maxRecDepth 20000
namespace Go.AM

def sqV (ax ay bx b_y : Int) : Int := w64 (w64 (w64 (ax - bx) * w64 (ax - bx)) + w64 (w64 (ay - b_y) * w64 (ay - b_y)))
theorem wrap_le (n : Int) : IntKind.i64.wrap n ≤ 9223372036854775807 := by
  simp [IntKind.wrap, IntKind.bits, IntKind.signed]
  split <;> omega
theorem sqV_le {a b c d : Int} : sqV a b c d ≤ 9223372036854775807 := wrap_le _

theorem sub_ev (a b : Pt) : Ev E 37 [a.v, b.v] ⟨(Pt.mk (w64 (a.x - b.x)) (w64 (a.y - b.y))).v, []⟩ := by
  refine Ev.of_s' E_37 (X_37 _) rfl ?_
  (conv => whnf); repeat' ((first | intro g | refine st ?_ | (first | refine b1 ?_ ?_ | refine b2 ?_ ?_ | refine Br.mk ?_ ?_) <;> intro hc | exact rfl) <;> conv => whnf)
theorem dot_ev (a b : Pt) : Ev E 38 [a.v, b.v] ⟨vi (w64 (w64 (a.x * b.x) + w64 (a.y * b.y))), []⟩ := by
  refine Ev.of_s' E_38 (X_38 _) rfl ?_
  (conv => whnf); repeat' ((first | intro g | refine st ?_ | (first | refine b1 ?_ ?_ | refine b2 ?_ ?_ | refine Br.mk ?_ ?_) <;> intro hc | exact rfl) <;> conv => whnf)
theorem square_ev (a b : Pt) : Ev E 24 [a.v, b.v] ⟨vi (sqV a.x a.y b.x b.y), []⟩ := by
  refine Ev.of_s' E_24 (X_24 _) rfl ?_
  (conv => whnf); repeat' ((first | intro g | refine CallS.mk _ (sub_ev a b) ?_ | refine CallS.mk _ (dot_ev _ _) ?_ | refine st ?_ | (first | refine b1 ?_ ?_ | refine b2 ?_ ?_ | refine Br.mk ?_ ?_) <;> intro hc | exact rfl) <;> conv => whnf)
theorem rsub_ev (a b : Pt) : Ev E 161 [a.v, b.v] ⟨(Pt.mk (w64 (a.x - b.x)) (w64 (a.y - b.y))).v, []⟩ := by
  refine Ev.of_s' E_161 (X_161 _) rfl ?_
  (conv => whnf); repeat' ((first | intro g | refine st ?_ | (first | refine b1 ?_ ?_ | refine b2 ?_ ?_ | refine Br.mk ?_ ?_) <;> intro hc | exact rfl) <;> conv => whnf)
theorem rdot_ev (a b : Pt) : Ev E 166 [a.v, b.v] ⟨vi (w64 (w64 (a.x * b.x) + w64 (a.y * b.y))), []⟩ := by
  refine Ev.of_s' E_166 (X_166 _) rfl ?_
  (conv => whnf); repeat' ((first | intro g | refine st ?_ | (first | refine b1 ?_ ?_ | refine b2 ?_ ?_ | refine Br.mk ?_ ?_) <;> intro hc | exact rfl) <;> conv => whnf)
theorem rsquare_ev (a b : Pt) : Ev E 128 [a.v, b.v] ⟨vi (sqV a.x a.y b.x b.y), []⟩ := by
  refine Ev.of_s' E_128 (X_128 _) rfl ?_
  (conv => whnf); repeat' ((first | intro g | refine CallS.mk _ (rsub_ev a b) ?_ | refine CallS.mk _ (rdot_ev _ _) ?_ | refine st ?_ | (first | refine b1 ?_ ?_ | refine b2 ?_ ?_ | refine Br.mk ?_ ?_) <;> intro hc | exact rfl) <;> conv => whnf)

def Place.at_ (p : Place) : Pt := ⟨p.x, p.y⟩
def sqP (a b : Place) : Int := sqV a.x a.y b.x b.y
noncomputable def costPP (a b : Place) : Int := w64 ((sqrtI (sqP a b)).tdiv 4)
noncomputable def costP (ps : List Place) (place into : Int) : Int :=
  match ps[(findP ps place).toNat]?, ps[(findP ps into).toNat]? with
  | some a, some b => if 0 ≤ findP ps place ∧ 0 ≤ findP ps into then costPP a b else 0
  | _, _ => 0

section
variable {m : GMap} (hlen : m.places.length < 1000000)
include hlen
theorem cost_ev (place into : Int) : Ev E 12 [m.v, vi place, vi into] ⟨vi (costP m.places place into), []⟩ := by
  have h := both_ev hlen place into
  rcases find_cases m.places place with h1 | ⟨i, a, h1, ha, hia⟩
  · have r : costP m.places place into = 0 := by simp [costP, h1]; split <;> rfl
    rw [h1] at h; rw [r]
    refine Ev.of_s' E_12 (X_12 _) rfl ?_
    (conv => whnf); repeat' ((first | intro g | refine CallS.mk _ (h) ?_ | refine st ?_ | (first | refine b1 ?_ ?_ | refine b2 ?_ ?_ | refine Br.mk ?_ ?_) <;> intro hc | exact rfl) <;> conv => whnf)
    all_goals simp_all
  rcases find_cases m.places into with h2 | ⟨k, b, h2, hb, hkb⟩
  · have r : costP m.places place into = 0 := by simp [costP, h2]; split <;> rfl
    rw [h2] at h; rw [r]
    refine Ev.of_s' E_12 (X_12 _) rfl ?_
    (conv => whnf); repeat' ((first | intro g | refine CallS.mk _ (h) ?_ | refine st ?_ | (first | refine b1 ?_ ?_ | refine b2 ?_ ?_ | refine Br.mk ?_ ?_) <;> intro hc | exact rfl) <;> conv => whnf)
    all_goals simp_all
  have r : costP m.places place into = costPP a b := by simp [costP, h1, h2, ha, hb]
  rw [h1, h2] at h
  rw [r]
  refine Ev.of_s' E_12 (X_12 _) rfl ?_
  (conv => whnf); repeat' ((first | intro g | refine Wit.mk _ (map_get ha rfl) ?_ | refine Wit.mk _ (map_get hb rfl) ?_ | refine CallS.mk _ (h) ?_ | refine CallS.mk _ (square_ev a.at_ b.at_) ?_ | refine CallS.mk _ (sqrt_ev (wrap_le _)) ?_ | refine st ?_ | (first | refine b1 ?_ ?_ | refine b2 ?_ ?_ | refine Br.mk ?_ ?_) <;> intro hc | exact rfl) <;> conv => whnf)
  all_goals simp_all
theorem rcost_ev (place into : Int) : Ev E 90 [m.v, vi place, vi into] ⟨vi (costP m.places place into), []⟩ := by
  have h := rplace_ev hlen
  have h5 := h place
  have h6 := h into
  rcases find_cases m.places place with h1 | ⟨i, a, h1, ha, hia⟩
  · have r : costP m.places place into = 0 := by simp [costP, h1]; split <;> rfl
    rw [h1] at h5; rw [r]
    refine Ev.of_s' E_90 (X_90 _) rfl ?_
    (conv => whnf); repeat' ((first | intro g | refine CallS.mk _ (h5) ?_ | refine CallS.mk _ (h6) ?_ | refine st ?_ | (first | refine b1 ?_ ?_ | refine b2 ?_ ?_ | refine Br.mk ?_ ?_) <;> intro hc | exact rfl) <;> conv => whnf)
    all_goals simp_all
  rcases find_cases m.places into with h2 | ⟨k, b, h2, hb, hkb⟩
  · have r : costP m.places place into = 0 := by simp [costP, h2]; split <;> rfl
    rw [h1] at h5; rw [h2] at h6; rw [r]
    refine Ev.of_s' E_90 (X_90 _) rfl ?_
    (conv => whnf); repeat' ((first | intro g | refine CallS.mk _ (h5) ?_ | refine CallS.mk _ (h6) ?_ | refine st ?_ | (first | refine b1 ?_ ?_ | refine b2 ?_ ?_ | refine Br.mk ?_ ?_) <;> intro hc | exact rfl) <;> conv => whnf)
    all_goals simp_all
  have r : costP m.places place into = costPP a b := by simp [costP, h1, h2, ha, hb]
  rw [h1] at h5; rw [h2] at h6
  rw [r]
  refine Ev.of_s' E_90 (X_90 _) rfl ?_
  (conv => whnf); repeat' ((first | intro g | refine Wit.mk _ (map_get ha rfl) ?_ | refine Wit.mk _ (map_get hb rfl) ?_ | refine CallS.mk _ (h5) ?_ | refine CallS.mk _ (h6) ?_ | refine CallS.mk _ (rsquare_ev a.at_ b.at_) ?_ | refine CallS.mk _ (rsqrt_ev (wrap_le _)) ?_ | refine st ?_ | (first | refine b1 ?_ ?_ | refine b2 ?_ ?_ | refine Br.mk ?_ ?_) <;> intro hc | exact rfl) <;> conv => whnf)
  all_goals simp_all
end

/-- the closure that compares two places by their distance from a third one -/
def cmpFrom (p a b : Place) : Int := orI (cmpI (sqP p a) (sqP p b)) (cmpI a.id b.id)
theorem cmpFrom_ev (p a b : Place) : Ev E 21 [a.v, b.v, .eptr p.v 0] ⟨vi (cmpFrom p a b), []⟩ := by
  refine Ev.of_s' E_21 (X_21 _) rfl ?_
  (conv => whnf); repeat' ((first | intro g | refine CallS.mk _ (square_ev p.at_ a.at_) ?_ | refine CallS.mk _ (square_ev p.at_ b.at_) ?_ | refine CallS.mk _ (compare_ev _ _) ?_ | refine CallS.mk _ (orI_ev _ _) ?_ | refine st ?_ | (first | refine b1 ?_ ?_ | refine b2 ?_ ?_ | refine Br.mk ?_ ?_) <;> intro hc | exact rfl) <;> conv => whnf)

/-- the least element, the first of such -/
def minF {α : Type} (c : α → α → Int) (l : List α) (x : α) : α := l.foldl (fun m y => if c y m < 0 then y else m) x

theorem minFunc_ev {l : List Place} {x0 : Place} (hlen : l.length < 1000000) {g' : Nat} {caps : List V} (hc : V.arePure caps = true) (hm : modesOf E g' = []) {c : Place → Place → Int}
    (hp : ∀ a b, Ev E g' (a.v :: b.v :: caps) ⟨vi (c a b), []⟩) : Ev E 35 [.lit 7 ((x0 :: l).map Place.v), .fn g' caps] ⟨(minF c l x0).v, []⟩ := by
  refine Ev.of_s' E_35 (X_35 _) rfl ?_
  (conv => whnf); repeat' ((first | intro g | refine st ?_ | (first | refine b1 ?_ ?_ | refine b2 ?_ ?_ | refine Br.mk ?_ ?_) <;> intro hc | exact rfl) <;> conv => whnf)
  rename_i g2
  refine LoopS.by (fun (p : Nat × Place) => ⟨[(0, .lit 7 ((x0 :: l).map Place.v)), (1, .fn g' caps), (4, .ptr 80 g2 0 0), (5, .ptr 96 g 0 0), (6, vnat (p.1 + 1))],
      [(96, ⟨g, 7, false, false, some [p.2.v]⟩), (80, ⟨g2, 7, false, false, some [(Place.mk 0 0 0 [] [] 0 0).v]⟩)]⟩)
    (fun p => p.1 ≤ l.length ∧ p.2 = minF c (l.take p.1) x0) (fun p => l.length - p.1) (0, x0) ?_ ?_ ?_
  · (refine ⟨?_, ?_⟩ <;> repeat' (first | exact True.intro | refine ai ?_ | refine And.intro ?_ ?_))
  · simp [minF]
  rintro ⟨i, y⟩ ⟨hi, hy⟩
  dsimp only at hi hy
  (conv => whnf); repeat' ((first | intro g | refine Wit.mk _ (map_get (l := x0 :: l) (get_lt (i := i + 1) (by simp only [List.length_cons]; omega)) rfl) ?_ | refine sAct_fn (by assumption) (by first | assumption | rfl | (simp only [V.arePure, V.isPure, Bool.and_self, Bool.true_and, Bool.and_true, *])) (hp _ _) rfl ?_ | refine st ?_ | (first | refine b1 ?_ ?_ | refine b2 ?_ ?_ | refine Br.mk ?_ ?_) <;> intro hc | exact rfl) <;> conv => whnf)
  · have e : (x0 :: l)[i + 1]'(by simp only [List.length_cons]; omega) = l[i]'(by omega) := rfl
    refine NxtS.mk (i + 1, l[i]'(by omega)) (by dsimp only; omega) ⟨by dsimp only; omega, ?_⟩ (by (refine ⟨?_, ?_⟩ <;> repeat' (first | exact True.intro | refine ai ?_ | refine And.intro ?_ ?_)))
    have : i < l.length := by omega
    rw [List.take_succ_eq_append_getElem this, minF, List.foldl_append, List.foldl_cons, List.foldl_nil]
    rw [e, hy] at hc
    exact (if_pos hc).symm
  · have e : (x0 :: l)[i + 1]'(by simp only [List.length_cons]; omega) = l[i]'(by omega) := rfl
    refine NxtS.mk (i + 1, y) (by dsimp only; omega) ⟨by dsimp only; omega, ?_⟩ (by (refine ⟨?_, ?_⟩ <;> repeat' (first | exact True.intro | refine ai ?_ | refine And.intro ?_ ?_)))
    have : i < l.length := by omega
    rw [List.take_succ_eq_append_getElem this, minF, List.foldl_append, List.foldl_cons, List.foldl_nil]
    rw [e, hy] at hc
    rw [hy]
    exact (if_neg hc).symm
  · obtain rfl : i = l.length := by omega
    rw [List.take_length] at hy
    subst hy; rfl

theorem least_nil (p : Place) : Ev E 20 [.lit 7 [], .fn 21 [.eptr p.v 0]] ⟨.tuple [(Place.mk 0 0 0 [] [] 0 0).v, .bool false], []⟩ := by
  refine Ev.of_s' E_20 (X_20 _) rfl ?_
  (conv => whnf); repeat' ((first | intro g | refine st ?_ | (first | refine b1 ?_ ?_ | refine b2 ?_ ?_ | refine Br.mk ?_ ?_) <;> intro hc | exact rfl) <;> conv => whnf)
theorem least_ev (p : Place) {l : List Place} {x0 : Place} (hlen : l.length < 1000000) : Ev E 20 [.lit 7 ((x0 :: l).map Place.v), .fn 21 [.eptr p.v 0]] ⟨.tuple [(minF (cmpFrom p) l x0).v, .bool true], []⟩ := by
  have h := minFunc_ev hlen (g' := 21) (caps := [.eptr p.v 0]) rfl rfl (fun a b => cmpFrom_ev p a b) (x0 := x0)
  refine Ev.of_s' E_20 (X_20 _) rfl ?_
  (conv => whnf); repeat' ((first | intro g | refine CallS.mk _ (h) ?_ | refine st ?_ | (first | refine b1 ?_ ?_ | refine b2 ?_ ?_ | refine Br.mk ?_ ?_) <;> intro hc | exact rfl) <;> conv => whnf)
end Go.AM

namespace Go.AM

structure CmpOk {α : Type} (c : α → α → Int) : Prop where
  tr : ∀ a b d, ¬ c b a < 0 → ¬ c d b < 0 → ¬ c d a < 0
  as : ∀ a b, c a b < 0 → ¬ c b a < 0
def NotAfter {α : Type} (c : α → α → Int) (a b : α) : Prop := ¬ c b a < 0

/-- an element on its way down -/
structure Sift {α : Type} (c : α → α → Int) (l0 : List α) (i j : Nat) (L pre : List α) (x : α) (mid post : List α) : Prop where
  perm : L.Perm l0
  eq : L = pre ++ x :: (mid ++ post)
  hj : pre.length = j
  hi : j + mid.length = i
  srt : (pre ++ mid).Pairwise (NotAfter c)
  up : ∀ y ∈ mid, c x y < 0

section
variable {α : Type} {c : α → α → Int} {l0 L pre mid post : List α} {x : α} {i j : Nat}

theorem Sift.start (hp : L.Perm l0) (hs : (L.take i).Pairwise (NotAfter c)) (hi : i < L.length) : Sift c l0 i i L (L.take i) L[i] [] (L.drop (i + 1)) where
  perm := hp
  eq := by
    simp only [List.nil_append]
    rw [List.getElem_cons_drop, List.take_append_drop]
  hj := by simp; omega
  hi := by simp
  srt := by simpa using hs
  up := by simp

theorem Sift.getx (h : Sift c l0 i j L pre x mid post) : L[j]? = some x := by
  rw [h.eq, List.getElem?_append_right (by have := h.hj; omega), h.hj]; simp
theorem Sift.gety {y : α} {pre' : List α} (h : Sift c l0 i (j + 1) L (pre' ++ [y]) x mid post) : L[j]? = some y := by
  have := h.hj
  simp at this
  rw [h.eq, List.append_assoc, List.getElem?_append_right (by omega), this]; simp
theorem Sift.snoc (h : Sift c l0 i (j + 1) L pre x mid post) : ∃ pre' y, pre = pre' ++ [y] := by
  have := h.hj
  rcases List.eq_nil_or_concat pre with rfl | ⟨l, b, rfl⟩
  · simp at this
  · exact ⟨l, b, by simp⟩
theorem Sift.step {y : α} {pre' : List α} (h : Sift c l0 i (j + 1) L (pre' ++ [y]) x mid post) (hc : c x y < 0) : Sift c l0 i j ((L.set (j + 1) y).set j x) pre' x (y :: mid) post where
  perm := by
    have hp := h.perm
    have e : (L.set (j + 1) y).set j x = pre' ++ x :: (y :: mid ++ post) := by
      have hj : pre'.length = j := by have := h.hj; simpa using this
      rw [h.eq]
      simp [List.set_append, hj]
    rw [e]
    refine List.Perm.trans ?_ hp
    rw [h.eq]
    simp only [List.append_assoc, List.cons_append, List.nil_append]
    exact List.Perm.append_left _ (List.Perm.swap _ _ _)
  eq := by
    have hj : pre'.length = j := by have := h.hj; simpa using this
    rw [h.eq]
    simp [List.set_append, hj]
  hj := by have := h.hj; simpa using this
  hi := by have := h.hi; simp; omega
  srt := by have := h.srt; simpa using this
  up := fun z hz => by
    rcases List.mem_cons.1 hz with rfl | hz
    · exact hc
    · exact h.up z hz
theorem Sift.len (h : Sift c l0 i j L pre x mid post) : L.length = l0.length := h.perm.length_eq
theorem Sift.stop (ho : CmpOk c) (h : Sift c l0 i j L pre x mid post) (hx : pre = [] ∨ ∃ pre' y, pre = pre' ++ [y] ∧ ¬ c x y < 0) : (L.take (i + 1)).Pairwise (NotAfter c) := by
  have e : L.take (i + 1) = pre ++ x :: mid := by
    have h1 := h.hj
    have h2 := h.hi
    rw [h.eq, ← List.cons_append, ← List.append_assoc, List.take_append_of_le_length (by simp; omega), List.take_of_length_le (by simp; omega)]
  rw [e, List.pairwise_append]
  have hs := List.pairwise_append.1 h.srt
  refine ⟨hs.1, ?_, fun a ha b hb => ?_⟩
  · rw [List.pairwise_cons]
    exact ⟨fun y hy => ho.as _ _ (h.up y hy), hs.2.1⟩
  · rcases List.mem_cons.1 hb with rfl | hb
    · rcases hx with rfl | ⟨pre', y, rfl, hy⟩
      · simp at ha
      · rcases List.mem_append.1 ha with ha' | ha'
        · have h3 := (List.pairwise_append.1 hs.1).2.2 a ha' y (by simp)
          exact ho.tr a y b h3 hy
        · have : a = y := by simpa using ha'
          subst this; exact hy
    · exact hs.2.2 a ha b hb
end

/-- sorted by a key that differs: there is only one such list -/
theorem sorted_unique {α : Type} {k : α → Int} : ∀ {l l' : List α}, l.Pairwise (fun a b => k a < k b) → l'.Pairwise (fun a b => k a < k b) → l.Perm l' → l = l'
  | [], l', _, _, hp => by simpa using hp.symm.eq_nil.symm
  | x :: l, l', h, h', hp => by
    cases l' with
    | nil => exact absurd hp.eq_nil (by simp)
    | cons y l' =>
      rw [List.pairwise_cons] at h h'
      have hx : x ∈ y :: l' := hp.mem_iff.1 (by simp)
      have hy : y ∈ x :: l := hp.mem_iff.2 (by simp)
      have : x = y := by
        rcases List.mem_cons.1 hx with e | hx
        · exact e
        · rcases List.mem_cons.1 hy with e | hy
          · exact e.symm
          · have := h'.1 x hx
            have := h.1 y hy
            omega
      subst this
      rw [sorted_unique h.2 h'.2 (List.Perm.cons_inv hp)]
end Go.AM

set_option maxRecDepth 20000
namespace Go.AM
section
variable {c : Event → Event → Int} {g : Nat}
set_option maxHeartbeats 1000000 in
theorem insSort_Event (ho : CmpOk c) (hm : modesOf E g = []) (hcmp : ∀ a b : Event, Ev E g [a.v, b.v] ⟨vi (c a b), []⟩) {l0 : List Event} (hlen : l0.length < 1000000) :
    ∃ l' : List Event, l'.Perm l0 ∧ l'.Pairwise (NotAfter c) ∧ Ev E 42 [.msl 5 (l0.map Event.v) 0 l0.length, vi 0, vnat l0.length, .fn g []] ⟨.tuple [], [(0, l'.map Event.v)]⟩ := by
  have key := Ev.of_s (R := fun r => ∃ l' : List Event, l'.Perm l0 ∧ l'.Pairwise (NotAfter c) ∧ r = ⟨.tuple [], [(0, l'.map Event.v)]⟩) E_42 (X_42 [.msl 5 (l0.map Event.v) 0 l0.length, vi 0, vnat l0.length, .fn g []]) rfl ?_
  · obtain ⟨res, h1, l', h2, h3, rfl⟩ := key
    exact ⟨l', h2, h3, h1⟩
  (conv => whnf); repeat' ((first | intro g | refine st ?_ | (first | refine b1 ?_ ?_ | refine b2 ?_ ?_ | refine Br.mk ?_ ?_) <;> intro hc | exact rfl) <;> conv => whnf)
  refine LoopS.by (fun ((i, L) : Nat × List Event) => ⟨[(0, .sl 0 0 0 l0.length), (1, vi 0), (2, vnat l0.length), (3, .fn g []), (8, vnat (i + 1))], [(0, ⟨0, 5, true, false, some (L.map Event.v)⟩)]⟩)
    (fun p => p.1 ≤ l0.length ∧ p.2.Perm l0 ∧ (p.2.take (p.1 + 1)).Pairwise (NotAfter c)) (fun p => l0.length - p.1) (0, l0) ?_ ?_ ?_
  · (refine ⟨?_, ?_⟩ <;> repeat' (first | exact True.intro | refine ai ?_ | refine And.intro ?_ ?_))
  · refine ⟨by simp, .refl _, ?_⟩
    cases l0 <;> simp
  rintro ⟨i, L⟩ ⟨h1, h2, h3⟩
  dsimp only at h1 h2 h3
  have hl := h2.length_eq
  (conv => whnf); repeat' ((first | intro g | refine Need.mk (⟨rfl, rfl, Event.pures _⟩) ?_ | refine st ?_ | (first | refine b1 ?_ ?_ | refine b2 ?_ ?_ | refine Br.mk ?_ ?_) <;> intro hc | exact rfl) <;> conv => whnf)
  · have hil : i + 1 < L.length := by omega
    refine LoopS.by (fun ((j, L) : Nat × List Event) => ⟨[(0, .sl 0 0 0 l0.length), (1, vi 0), (2, vnat l0.length), (3, .fn g []), (8, vnat (i + 1)), (9, vnat j)], [(0, ⟨0, 5, true, false, some (L.map Event.v)⟩)]⟩)
      (fun p => ∃ pre x mid post, Sift c l0 (i + 1) p.1 p.2 pre x mid post) (fun p => p.1) (i + 1, L) ?_ ⟨_, _, _, _, Sift.start h2 h3 hil⟩ ?_
    · (refine ⟨?_, ?_⟩ <;> repeat' (first | exact True.intro | refine ai ?_ | refine And.intro ?_ ?_))
    rintro ⟨j, L'⟩ ⟨pre, x, mid, post, hs⟩
    dsimp only at hs
    have hl' := hs.len
    have hlj := hs.hj
    have hli := hs.hi
    have hx := hs.getx
    cases j with
    | zero =>
      (conv => whnf); repeat' ((first | intro g | refine st ?_ | (first | refine b1 ?_ ?_ | refine b2 ?_ ?_ | refine Br.mk ?_ ?_) <;> intro hc | exact rfl) <;> conv => whnf)
      refine NxtS.mk (i + 1, L') (by dsimp only; omega) ⟨by dsimp only; omega, hs.perm, hs.stop ho (.inl (by simpa using hlj))⟩ (by (refine ⟨?_, ?_⟩ <;> repeat' (first | exact True.intro | refine ai ?_ | refine And.intro ?_ ?_)))
    | succ j =>
      obtain ⟨pre', y, rfl⟩ := hs.snoc
      have hy := hs.gety
      have hjw : IntKind.i64.wrap (((j + 1 : Nat) : Int) - 1) = (j : Int) := (wrap64 (by omega) (by omega)).trans (by omega)
      have hy2 : ((L'.map Event.v).set ((j + 1 : Nat) : Int).toNat y.v)[(IntKind.i64.wrap (((j + 1 : Nat) : Int) - 1)).toNat]? = some y.v := by
        rw [hjw]; simp [hy]
      (conv => whnf); repeat' ((first | intro g | refine Wit.mk _ (map_get hx rfl) ?_ | refine Wit.mk _ (map_get hy hjw) ?_ | refine Wit.mk _ (hy2) ?_ | refine sAct_fn (by assumption) (by first | assumption | rfl | (simp only [V.arePure, V.isPure, Bool.and_self, Bool.true_and, Bool.and_true, *])) (hcmp _ _) rfl ?_ | refine st ?_ | (first | refine b1 ?_ ?_ | refine b2 ?_ ?_ | refine Br.mk ?_ ?_) <;> intro hc | exact rfl) <;> conv => whnf)
      · refine NxtS.mk (j, (L'.set (j + 1) y).set j x) (by dsimp only; omega) ⟨_, _, _, _, hs.step hc⟩ ?_
        have e1 : V.int .i64 (IntKind.i64.wrap (((j + 1 : Nat) : Int) - 1)) = vnat j := by rw [hjw]
        have e2 : (⟨0, 5, true, false, some (((L'.map Event.v).set ((j + 1 : Nat) : Int).toNat y.v).set (IntKind.i64.wrap (((j + 1 : Nat) : Int) - 1)).toNat x.v)⟩ : Obj) = ⟨0, 5, true, false, some (((L'.set (j + 1) y).set j x).map Event.v)⟩ := by
          rw [hjw, List.map_set, List.map_set]; rfl
        (refine ⟨?_, ?_⟩ <;> repeat' (first | exact True.intro | refine And.intro (e1) ?_ | refine And.intro (e2) ?_ | refine ai ?_ | refine And.intro ?_ ?_))
      · refine NxtS.mk (i + 1, L') (by dsimp only; omega) ⟨by dsimp only; omega, hs.perm, hs.stop ho (.inr ⟨pre', y, rfl, hc⟩)⟩ (by (refine ⟨?_, ?_⟩ <;> repeat' (first | exact True.intro | refine ai ?_ | refine And.intro ?_ ?_)))
  · exact ⟨L, h2, by rw [List.take_of_length_le (by omega)] at h3; exact h3, rfl⟩
end

end Go.AM

set_option maxRecDepth 20000
namespace Go.AM
section
variable {c : Event → Event → Int} {g : Nat} {l : List Event}
theorem order2_Event (hm : modesOf E g = []) (hcmp : ∀ a b : Event, Ev E g [a.v, b.v] ⟨vi (c a b), []⟩) (hs : l.Pairwise (NotAfter c)) {a b s : Int} {i j : Nat} (ha : a = i) (hb : b = j) (hij : i < j) (hj : j < l.length) :
    Ev E 58 [.lit 5 (l.map Event.v), vi a, vi b, .mptr 1 [vi s] 0 0, .fn g []] ⟨.tuple [vi a, vi b], [(0, [vi s])]⟩ := by
  have hx := get_lt (l := l) (i := i) (by omega)
  have hy := get_lt (l := l) (i := j) (by omega)
  have hn : ¬ c (l[j]'hj) (l[i]'(by omega)) < 0 := by
    have := List.pairwise_iff_getElem.1 hs i j (by omega) hj hij
    exact this
  refine Ev.of_s' E_58 (X_58 _) rfl ?_
  (conv => whnf); repeat' ((first | intro g | refine Need.mk (⟨by omega, rfl⟩) ?_ | refine Wit.mk _ (map_get hx ha) ?_ | refine Wit.mk _ (map_get hy hb) ?_ | refine sAct_fn (by assumption) (by first | assumption | rfl | (simp only [V.arePure, V.isPure, Bool.and_self, Bool.true_and, Bool.and_true, *])) (hcmp _ _) rfl ?_ | refine st ?_ | (first | refine b1 ?_ ?_ | refine b2 ?_ ?_ | refine Br.mk ?_ ?_) <;> intro hc | exact rfl) <;> conv => whnf)
theorem median_Event (hm : modesOf E g = []) (hcmp : ∀ a b : Event, Ev E g [a.v, b.v] ⟨vi (c a b), []⟩) (hs : l.Pairwise (NotAfter c)) {a b d s : Int} {i j k : Nat} (ha : a = i) (hb : b = j) (hd : d = k) (hij : i < j) (hjk : j < k) (hk : k < l.length) :
    Ev E 57 [.lit 5 (l.map Event.v), vi a, vi b, vi d, .mptr 1 [vi s] 0 0, .fn g []] ⟨vi b, [(0, [vi s])]⟩ := by
  have h1 := order2_Event (s := s) hm hcmp hs ha hb hij (by omega)
  have h2 := order2_Event (s := s) hm hcmp hs hb hd hjk (by omega)
  refine Ev.of_s' E_57 (X_57 _) rfl ?_
  (conv => whnf); repeat' ((first | intro g | refine Need.mk (⟨rfl, rfl, rfl, rfl⟩) ?_ | refine Need.mk (⟨by omega, rfl⟩) ?_ | refine CallS.mk _ (h1) ?_ | refine CallS.mk _ (h2) ?_ | refine st ?_ | (first | refine b1 ?_ ?_ | refine b2 ?_ ?_ | refine Br.mk ?_ ?_) <;> intro hc | exact rfl) <;> conv => whnf)
theorem medianAdj_Event (hm : modesOf E g = []) (hcmp : ∀ a b : Event, Ev E g [a.v, b.v] ⟨vi (c a b), []⟩) (hs : l.Pairwise (NotAfter c)) {a s : Int} {i : Nat} (ha : a = i) (hi : 1 ≤ i) (hk : i + 1 < l.length) (hlen : l.length < 1000000) :
    Ev E 56 [.lit 5 (l.map Event.v), vi a, .mptr 1 [vi s] 0 0, .fn g []] ⟨vi a, [(0, [vi s])]⟩ := by
  have h1 := median_Event (s := s) (a := IntKind.i64.wrap (a - 1)) (b := a) (d := IntKind.i64.wrap (a + 1)) hm hcmp hs (i := i - 1) (j := i) (k := i + 1) ((wrap64 (by omega) (by omega)).trans (by omega)) ha ((wrap64 (by omega) (by omega)).trans (by omega)) (by omega) (by omega) hk
  refine Ev.of_s' E_56 (X_56 _) rfl ?_
  (conv => whnf); repeat' ((first | intro g | refine Need.mk (⟨rfl, rfl, rfl, rfl⟩) ?_ | refine Need.mk (⟨by omega, rfl⟩) ?_ | refine CallS.mk _ (h1) ?_ | refine st ?_ | (first | refine b1 ?_ ?_ | refine b2 ?_ ?_ | refine Br.mk ?_ ?_) <;> intro hc | exact rfl) <;> conv => whnf)

theorem choosePivot_Event (hm : modesOf E g = []) (hcmp : ∀ a b : Event, Ev E g [a.v, b.v] ⟨vi (c a b), []⟩) (hs : l.Pairwise (NotAfter c)) (h13 : 13 ≤ l.length) (hlen : l.length < 1000000) :
    ∃ p : Int, Ev E 45 [.lit 5 (l.map Event.v), vi 0, vnat l.length, .fn g []] ⟨.tuple [vi p, vi 1], []⟩ := by
  have key := Ev.of_s (R := fun r => ∃ p : Int, r = ⟨.tuple [vi p, vi 1], []⟩) E_45 (X_45 [.lit 5 (l.map Event.v), vi 0, vnat l.length, .fn g []]) rfl ?_
  · obtain ⟨res, h1, p, rfl⟩ := key
    exact ⟨p, h1⟩
  have e0 : IntKind.i64.wrap ((l.length : Int) - 0) = l.length := (wrap64 (by omega) (by omega)).trans (by omega)
  have e1 : (l.length : Int).tdiv 4 = ((l.length / 4 : Nat) : Int) := rfl
  generalize hq : l.length / 4 = q at e1
  have e2 : IntKind.i64.wrap ((q : Nat) : Int) = q := wrap64 (by omega) (by omega)
  have i1 : IntKind.i64.wrap (0 + IntKind.i64.wrap (IntKind.i64.wrap ((IntKind.i64.wrap ((l.length : Int) - 0)).tdiv 4) * 1)) = ((q : Nat) : Int) := by
    rw [e0, e1, e2]; simp only [Int.mul_one, Int.zero_add, e2]
  have i2 : IntKind.i64.wrap (0 + IntKind.i64.wrap (IntKind.i64.wrap ((IntKind.i64.wrap ((l.length : Int) - 0)).tdiv 4) * 2)) = ((2 * q : Nat) : Int) := by
    rw [e0, e1, e2, wrap64 (n := (q : Int) * 2) (by omega) (by omega)]
    exact (wrap64 (by omega) (by omega)).trans (by omega)
  have i3 : IntKind.i64.wrap (0 + IntKind.i64.wrap (IntKind.i64.wrap ((IntKind.i64.wrap ((l.length : Int) - 0)).tdiv 4) * 3)) = ((3 * q : Nat) : Int) := by
    rw [e0, e1, e2, wrap64 (n := (q : Int) * 3) (by omega) (by omega)]
    exact (wrap64 (by omega) (by omega)).trans (by omega)
  have m1 := medianAdj_Event (s := 0) hm hcmp hs i1 (by omega) (by omega) hlen
  have m2 := medianAdj_Event (s := 0) hm hcmp hs i2 (by omega) (by omega) hlen
  have m3 := medianAdj_Event (s := 0) hm hcmp hs i3 (by omega) (by omega) hlen
  have m4 := median_Event (s := 0) hm hcmp hs i1 i2 i3 (by omega) (by omega) (by omega)
  (conv => whnf); repeat' ((first | intro g | refine Need.mk (⟨rfl, rfl, rfl, rfl⟩) ?_ | refine Need.mk (⟨by omega, rfl⟩) ?_ | refine CallS.mk _ (m1) ?_ | refine CallS.mk _ (m2) ?_ | refine CallS.mk _ (m3) ?_ | refine CallS.mk _ (m4) ?_ | refine st ?_ | (first | refine b1 ?_ ?_ | refine b2 ?_ ?_ | refine Br.mk ?_ ?_) <;> intro hc | exact rfl) <;> conv => whnf)
  all_goals exact ⟨_, rfl⟩

theorem partIns_Event (hm : modesOf E g = []) (hcmp : ∀ a b : Event, Ev E g [a.v, b.v] ⟨vi (c a b), []⟩) (hs : l.Pairwise (NotAfter c)) (h13 : 13 ≤ l.length) (hlen : l.length < 1000000) :
    Ev E 47 [.msl 5 (l.map Event.v) 0 l.length, vi 0, vnat l.length, .fn g []] ⟨.bool true, [(0, l.map Event.v)]⟩ := by
  refine Ev.of_s' E_47 (X_47 _) rfl ?_
  (conv => whnf); repeat' ((first | intro g | refine st ?_ | (first | refine b1 ?_ ?_ | refine b2 ?_ ?_ | refine Br.mk ?_ ?_) <;> intro hc | exact rfl) <;> conv => whnf)
  refine LoopS.by (fun (_ : Unit) => ⟨[(0, .sl 0 0 0 l.length), (1, vi 0), (2, vnat l.length), (3, .fn g []), (9, vnat 1), (10, vi 0)], [(0, ⟨0, 5, true, false, some (l.map Event.v)⟩)]⟩)
    (fun _ => True) (fun _ => 0) () (by (refine ⟨?_, ?_⟩ <;> repeat' (first | exact True.intro | refine ai ?_ | refine And.intro ?_ ?_))) trivial ?_
  rintro _ _
  (conv => whnf); repeat' ((first | intro g | refine st ?_ | (first | refine b1 ?_ ?_ | refine b2 ?_ ?_ | refine Br.mk ?_ ?_) <;> intro hc | exact rfl) <;> conv => whnf)
  refine LoopS.by (fun (i : Nat) => ⟨[(0, .sl 0 0 0 l.length), (1, vi 0), (2, vnat l.length), (3, .fn g []), (9, vnat (i + 1)), (10, vi 0)], [(0, ⟨0, 5, true, false, some (l.map Event.v)⟩)]⟩)
    (fun i => i + 1 ≤ l.length) (fun i => l.length - i) 0 (by (refine ⟨?_, ?_⟩ <;> repeat' (first | exact True.intro | refine ai ?_ | refine And.intro ?_ ?_))) (by omega) ?_
  rintro i hi
  by_cases hlt : i + 1 < l.length
  · have hx := get_lt (l := l) (i := i) (by omega)
    have hy := get_lt (l := l) (i := i + 1) (by omega)
    have hn : ¬ c (l[i + 1]'hlt) (l[i]'(by omega)) < 0 := List.pairwise_iff_getElem.1 hs i (i + 1) (by omega) hlt (by omega)
    have hjw : IntKind.i64.wrap (((i + 1 : Nat) : Int) - 1) = (i : Int) := (wrap64 (by omega) (by omega)).trans (by omega)
    (conv => whnf); repeat' ((first | intro g | refine Wit.mk _ (map_get hy rfl) ?_ | refine Wit.mk _ (map_get hx hjw) ?_ | refine sAct_fn (by assumption) (by first | assumption | rfl | (simp only [V.arePure, V.isPure, Bool.and_self, Bool.true_and, Bool.and_true, *])) (hcmp _ _) rfl ?_ | refine st ?_ | (first | refine b1 ?_ ?_ | refine b2 ?_ ?_ | refine Br.mk ?_ ?_) <;> intro hc | exact rfl) <;> conv => whnf)
    refine NxtS.mk (i + 1) (by first | omega | (dsimp only; omega)) ?_ (by (refine ⟨?_, ?_⟩ <;> repeat' (first | exact True.intro | refine ai ?_ | refine And.intro ?_ ?_)))
    omega
  · have he : i + 1 = l.length := by omega
    have he' : ((i + 1 : Nat) : Int) = (l.length : Int) := by omega
    (conv => whnf); repeat' ((first | intro g | refine Need.mk (⟨rfl, rfl, Event.pures _⟩) ?_ | refine st ?_ | (first | refine b1 ?_ ?_ | refine b2 ?_ ?_ | refine Br.mk ?_ ?_) <;> intro hc | exact rfl) <;> conv => whnf)

theorem bitsLen : ∀ n, n < 200 → ∃ k : Int, (1 ≤ n → 1 ≤ k) ∧ Ev E 40 [.int .u64 (n : Nat)] ⟨vi k, []⟩ := by
  have key : (List.range 200).all (fun n => match call E 100 40 [.int .u64 (n : Nat)] with
    | some ⟨.int .i64 k, []⟩ => decide (n = 0 ∨ 1 ≤ k)
    | _ => false) = true := by kernel_rfl
  intro n hn
  have h := List.all_eq_true.1 key n (by simpa using hn)
  split at h
  · rename_i k hk
    simp only [decide_eq_true_eq] at h
    exact ⟨k, fun h1 => by omega, ⟨100, hk⟩⟩
  · simp at h

/-- few elements, or those that are in order -/
def SortFit (c : Event → Event → Int) (l : List Event) : Prop := l.length ≤ 12 ∨ l.length < 200 ∧ l.Pairwise (NotAfter c)

theorem pdq_Event (ho : CmpOk c) (hm : modesOf E g = []) (hcmp : ∀ a b : Event, Ev E g [a.v, b.v] ⟨vi (c a b), []⟩) (hf : SortFit c l) {k : Int} (hk : 1 ≤ l.length → 1 ≤ k) :
    ∃ l' : List Event, l'.Perm l ∧ l'.Pairwise (NotAfter c) ∧ Ev E 39 [.msl 5 (l.map Event.v) 0 l.length, vi 0, vnat l.length, vi k, .fn g []] ⟨.tuple [], [(0, l'.map Event.v)]⟩ := by
  by_cases h12 : l.length ≤ 12
  · obtain ⟨l', h1, h2, h3⟩ := insSort_Event ho hm hcmp (l0 := l) (by omega)
    refine ⟨l', h1, h2, ?_⟩
    have e0 : IntKind.i64.wrap ((l.length : Int) - 0) = l.length := (wrap64 (by omega) (by omega)).trans (by omega)
    refine Ev.of_s' E_39 (X_39 _) rfl ?_
    (conv => whnf); repeat' ((first | intro g | refine st ?_ | (first | refine b1 ?_ ?_ | refine b2 ?_ ?_ | refine Br.mk ?_ ?_) <;> intro hc | exact rfl) <;> conv => whnf)
    refine LoopS.by (fun (_ : Unit) => ⟨[(0, .sl 0 0 0 l.length), (1, vi 0), (2, vnat l.length), (3, vi k), (4, .fn g []), (10, .bool true), (11, .bool true)], [(0, ⟨0, 5, true, false, some (l.map Event.v)⟩)]⟩)
      (fun _ => True) (fun _ => 0) () (by (refine ⟨?_, ?_⟩ <;> repeat' (first | exact True.intro | refine ai ?_ | refine And.intro ?_ ?_))) trivial ?_
    rintro _ _
    (conv => whnf); repeat' ((first | intro g | refine Need.mk (⟨rfl, rfl, rfl, by simp, Event.pures _⟩) ?_ | refine Need.mk (⟨rfl, rfl, Event.pures _⟩) ?_ | refine CallS.mk _ (h3) ?_ | refine st ?_ | (first | refine b1 ?_ ?_ | refine b2 ?_ ?_ | refine Br.mk ?_ ?_) <;> intro hc | exact rfl) <;> conv => whnf)
  · obtain ⟨h200, hs⟩ : l.length < 200 ∧ l.Pairwise (NotAfter c) := hf.resolve_left h12
    obtain ⟨p, h1⟩ := choosePivot_Event (l := l) hm hcmp hs (by omega) (by omega)
    have h2 := partIns_Event (l := l) hm hcmp hs (by omega) (by omega)
    refine ⟨l, .refl _, hs, ?_⟩
    have hk1 := hk (by omega)
    have e0 : IntKind.i64.wrap ((l.length : Int) - 0) = l.length := (wrap64 (by omega) (by omega)).trans (by omega)
    refine Ev.of_s' E_39 (X_39 _) rfl ?_
    (conv => whnf); repeat' ((first | intro g | refine st ?_ | (first | refine b1 ?_ ?_ | refine b2 ?_ ?_ | refine Br.mk ?_ ?_) <;> intro hc | exact rfl) <;> conv => whnf)
    refine LoopS.by (fun (_ : Unit) => ⟨[(0, .sl 0 0 0 l.length), (1, vi 0), (2, vnat l.length), (3, vi k), (4, .fn g []), (10, .bool true), (11, .bool true)], [(0, ⟨0, 5, true, false, some (l.map Event.v)⟩)]⟩)
      (fun _ => True) (fun _ => 0) () (by (refine ⟨?_, ?_⟩ <;> repeat' (first | exact True.intro | refine ai ?_ | refine And.intro ?_ ?_))) trivial ?_
    rintro _ _
    (conv => whnf); repeat' ((first | intro g | refine Need.mk (⟨rfl, rfl, by simp, Event.pures _⟩) ?_ | refine Need.mk (⟨rfl, rfl, rfl, by simp, Event.pures _⟩) ?_ | refine Need.mk (⟨rfl, rfl, Event.pures _⟩) ?_ | refine Wit.mk _ (win_all rfl) ?_ | refine CallS.mk _ (h1) ?_ | refine CallS.mk _ (h2) ?_ | refine st ?_ | (first | refine b1 ?_ ?_ | refine b2 ?_ ?_ | refine Br.mk ?_ ?_) <;> intro hc | exact rfl) <;> conv => whnf)

theorem sortFunc_Event (ho : CmpOk c) (hm : modesOf E g = []) (hcmp : ∀ a b : Event, Ev E g [a.v, b.v] ⟨vi (c a b), []⟩) (hf : SortFit c l) :
    ∃ l' : List Event, l'.Perm l ∧ l'.Pairwise (NotAfter c) ∧ Ev E 25 [.msl 5 (l.map Event.v) 0 l.length, .fn g []] ⟨.tuple [], [(0, l'.map Event.v)]⟩ := by
  have hlen : l.length < 200 := by rcases hf with h | h <;> omega
  obtain ⟨k, hk, hb⟩ := bitsLen l.length hlen
  obtain ⟨l', h1, h2, h3⟩ := pdq_Event ho hm hcmp hf hk
  refine ⟨l', h1, h2, ?_⟩
  have hw : IntKind.u64.wrap (l.length : Int) = l.length := by
    simp [IntKind.wrap, IntKind.bits, IntKind.signed]; omega
  have hb' : Ev E 40 [.int .u64 (IntKind.u64.wrap (l.length : Int))] ⟨vi k, []⟩ := by rw [hw]; exact hb
  refine Ev.of_s' E_25 (X_25 _) rfl ?_
  (conv => whnf); repeat' ((first | intro g | refine Need.mk (⟨rfl, rfl, rfl, by simp, Event.pures _⟩) ?_ | refine Need.mk (⟨rfl, rfl, Event.pures _⟩) ?_ | refine CallS.mk _ (hb') ?_ | refine CallS.mk _ (h3) ?_ | refine st ?_ | (first | refine b1 ?_ ?_ | refine b2 ?_ ?_ | refine Br.mk ?_ ?_) <;> intro hc | exact rfl) <;> conv => whnf)
end

end Go.AM

set_option maxRecDepth 20000
namespace Go.AM

def canAt (ps : List Place) (p : Place) (j : Nat) : Option Place := match ps[j]? with
  | some o => if findP ps o.id = j ∧ canP ps p.id o.id = 0 then some o else none
  | none => none
def canList (ps : List Place) (p : Place) (i : Nat) : List Place := (List.range i).filterMap (canAt ps p)
/-- the best so far -/
def bestOf (ps : List Place) (p : Place) (j : Nat) : Option Place := match canList ps p j with
  | [] => none
  | x :: xs => some (minF (cmpFrom p) xs x)
theorem canList_succ (ps : List Place) (p : Place) (i : Nat) : canList ps p (i + 1) = canList ps p i ++ (canAt ps p i).toList := by
  simp only [canList, List.range_succ, List.filterMap_append]
  cases h : canAt ps p i <;> simp [List.filterMap_cons, h]
theorem canList_len (ps : List Place) (p : Place) (i : Nat) : (canList ps p i).length ≤ i := by
  simp only [canList]
  exact Nat.le_trans (List.length_filterMap_le _ _) (by simp)
theorem minF_append {α : Type} (c : α → α → Int) : ∀ (l : List α) (x y : α), minF c (l ++ [y]) x = if c y (minF c l x) < 0 then y else minF c l x
  | [], x, y => rfl
  | z :: l, x, y => by
    have e : ∀ l', minF c (z :: l') x = minF c l' (if c z x < 0 then z else x) := fun _ => rfl
    rw [List.cons_append, e, e, minF_append c l _ y]
theorem minF_mem {α : Type} (c : α → α → Int) : ∀ (l : List α) (x : α), minF c l x ∈ x :: l
  | [], x => by simp [minF]
  | y :: l, x => by
    have ih := minF_mem c l (if c y x < 0 then y else x)
    have e : minF c (y :: l) x = minF c l (if c y x < 0 then y else x) := rfl
    rw [e]
    rcases List.mem_cons.1 ih with h | h
    · rw [h]; split <;> simp
    · simp [h]
theorem canAt_some {ps : List Place} {p o : Place} {j : Nat} (h : canAt ps p j = some o) : ps[j]? = some o ∧ findP ps o.id = j ∧ canP ps p.id o.id = 0 := by
  unfold canAt at h
  split at h
  · split at h
    · rename_i hc
      injection h with h; subst h
      exact ⟨by assumption, hc.1, hc.2⟩
    · simp at h
  · simp at h
theorem bestOf_mem {ps : List Place} {p o : Place} {j : Nat} (h : bestOf ps p j = some o) : ∃ i, i < j ∧ ps[i]? = some o ∧ findP ps o.id = i ∧ canP ps p.id o.id = 0 := by
  unfold bestOf at h
  split at h
  · simp at h
  · rename_i x xs hc
    injection h with h
    have := minF_mem (cmpFrom p) xs x
    rw [h, ← hc, canList, List.mem_filterMap] at this
    obtain ⟨i, hi, h2⟩ := this
    exact ⟨i, by simpa using hi, canAt_some h2⟩
theorem bestOf_succ (ps : List Place) (p : Place) (j : Nat) : bestOf ps p (j + 1) = match canAt ps p j with
    | none => bestOf ps p j
    | some o => match bestOf ps p j with
      | none => some o
      | some b => if cmpFrom p o b < 0 then some o else some b := by
  unfold bestOf
  rw [canList_succ]
  cases hc : canAt ps p j with
  | none => simp
  | some o =>
    cases hl : canList ps p j with
    | nil => simp [minF]
    | cons x xs =>
      simp only [Option.toList_some, List.cons_append, minF_append]
      split <;> rfl
theorem cmpFrom_lt {p o b : Place} : cmpFrom p o b < 0 ↔ sqP p o < sqP p b ∨ sqP p o = sqP p b ∧ o.id < b.id := by
  unfold cmpFrom orI cmpI
  repeat' split
  all_goals omega

def evOf (ps : List Place) (p : Place) (o : Place) : Prop := True
/-- the event of a place -/
noncomputable def evAt (ps : List Place) (d : Int) (j : Nat) : Option Event := match ps[j]? with
  | some p => if p.dist = d ∧ findP ps p.id = j then (match bestOf ps p ps.length with
    | some o => some ⟨4, if 1 < costP ps p.id o.id then costP ps p.id o.id else 1, p.id, o.id, 0⟩
    | none => none) else none
  | none => none
noncomputable def evList (ps : List Place) (d : Int) (i : Nat) : List Event := (List.range i).filterMap (evAt ps d)
theorem evList_succ (ps : List Place) (d : Int) (i : Nat) : evList ps d (i + 1) = evList ps d i ++ (evAt ps d i).toList := by
  simp only [evList, List.range_succ, List.filterMap_append]
  cases h : evAt ps d i <;> simp [List.filterMap_cons, h]
theorem evList_len (ps : List Place) (d : Int) (i : Nat) : (evList ps d i).length ≤ i := by
  simp only [evList]
  exact Nat.le_trans (List.length_filterMap_le _ _) (by simp)

def cmpId (a b : Event) : Int := cmpI a.id b.id
theorem cmpId_ev (a b : Event) : Ev E 26 [a.v, b.v] ⟨vi (cmpId a b), []⟩ := by
  refine Ev.of_s' E_26 (X_26 _) rfl ?_
  (conv => whnf); repeat' ((first | intro g | refine CallS.mk _ (compare_ev _ _) ?_ | refine st ?_ | (first | refine b1 ?_ ?_ | refine b2 ?_ ?_ | refine Br.mk ?_ ?_) <;> intro hc | exact rfl) <;> conv => whnf)
theorem cmpId_ok : CmpOk cmpId where
  tr := fun a b d h1 h2 => by unfold cmpId cmpI at *; repeat' split at *; all_goals omega
  as := fun a b h => by unfold cmpId cmpI at *; repeat' split at *; all_goals omega

section
variable {m : GMap} (hlen : m.places.length < 1000000)
include hlen

set_option maxHeartbeats 2000000 in
theorem nearest_ev (p : Place) : Ev E 129 [m.v, p.v] ⟨(match bestOf m.places p m.places.length with
    | some o => .tuple [vi o.id, .bool true]
    | none => .tuple [vi 0, .bool false]), []⟩ := by
  have hplace := rplace_ev hlen
  have hcan := rcan_ev hlen
  refine Ev.of_s' E_129 (X_129 _) rfl ?_
  (conv => whnf); repeat' ((first | intro g | refine st ?_ | (first | refine b1 ?_ ?_ | refine b2 ?_ ?_ | refine Br.mk ?_ ?_) <;> intro hc | exact rfl) <;> conv => whnf)
  rename_i g1
  refine LoopS.by (fun ((k, best) : Nat × Int) => ⟨[(2, .ptr 48 g1 0 0), (3, .ptr 64 g 0 0), (6, vi best), (7, vnat k)], [(48, ⟨g1, 4, false, false, some [m.v]⟩), (64, ⟨g, 7, false, false, some [p.v]⟩)]⟩)
    (fun (k, best) => k ≤ m.places.length ∧ (match bestOf m.places p k with
      | none => best = -1
      | some o => ∃ b : Nat, best = b ∧ m.places[b]? = some o)) (fun (k, _) => m.places.length - k) (0, -1) (by (refine ⟨?_, ?_⟩ <;> repeat' (first | exact True.intro | refine ai ?_ | refine And.intro ?_ ?_))) ⟨by simp, rfl⟩ ?_
  rintro ⟨k, best⟩ ⟨hk, hb⟩
  try dsimp only at hk hb
  by_cases hlt : k < m.places.length
  · obtain ⟨o, ho⟩ : ∃ o, m.places[k]? = some o := ⟨_, get_lt hlt⟩
    have hs := bestOf_succ m.places p k
    have hpl := hplace o.id
    have hca := hcan p.id o.id
    by_cases hf : findP m.places o.id = k
    case neg =>
      have hc : canAt m.places p k = none := by simp [canAt, ho, hf]
      rw [hc] at hs
      (conv => whnf); repeat' ((first | intro g | refine Wit.mk _ (map_get ho rfl) ?_ | refine CallS.mk _ (hpl) ?_ | refine CallS.mk _ (hca) ?_ | refine st ?_ | (first | refine b1 ?_ ?_ | refine b2 ?_ ?_ | refine Br.mk ?_ ?_) <;> intro hc | exact rfl) <;> conv => whnf)
      all_goals (refine NxtS.mk (k + 1, best) (by first | omega | (dsimp only; omega)) ⟨(by first | omega | (dsimp only; omega)), ?_⟩ (by (refine ⟨?_, ?_⟩ <;> repeat' (first | exact True.intro | refine ai ?_ | refine And.intro ?_ ?_))); try dsimp only)
      all_goals (rw [hs]; exact hb)
    rw [hf] at hpl
    by_cases hc0 : canP m.places p.id o.id = 0
    case neg =>
      have hc : canAt m.places p k = none := by simp [canAt, ho, hf, hc0]
      rw [hc] at hs
      (conv => whnf); repeat' ((first | intro g | refine Wit.mk _ (map_get ho rfl) ?_ | refine CallS.mk _ (hpl) ?_ | refine CallS.mk _ (hca) ?_ | refine st ?_ | (first | refine b1 ?_ ?_ | refine b2 ?_ ?_ | refine Br.mk ?_ ?_) <;> intro hc | exact rfl) <;> conv => whnf)
      all_goals (refine NxtS.mk (k + 1, best) (by first | omega | (dsimp only; omega)) ⟨(by first | omega | (dsimp only; omega)), ?_⟩ (by (refine ⟨?_, ?_⟩ <;> repeat' (first | exact True.intro | refine ai ?_ | refine And.intro ?_ ?_))); try dsimp only)
      all_goals (rw [hs]; exact hb)
    rw [hc0] at hca
    have hc : canAt m.places p k = some o := by simp [canAt, ho, hf, hc0]
    rw [hc] at hs
    cases hbo : bestOf m.places p k with
    | none =>
      rw [hbo] at hb hs
      try dsimp only at hb hs
      subst hb
      (conv => whnf); repeat' ((first | intro g | refine Wit.mk _ (map_get ho rfl) ?_ | refine CallS.mk _ (hpl) ?_ | refine CallS.mk _ (hca) ?_ | refine st ?_ | (first | refine b1 ?_ ?_ | refine b2 ?_ ?_ | refine Br.mk ?_ ?_) <;> intro hc | exact rfl) <;> conv => whnf)
      all_goals (refine NxtS.mk (k + 1, (k : Int)) (by first | omega | (dsimp only; omega)) ⟨(by first | omega | (dsimp only; omega)), ?_⟩ (by (refine ⟨?_, ?_⟩ <;> repeat' (first | exact True.intro | refine ai ?_ | refine And.intro ?_ ?_))); try dsimp only)
      all_goals (rw [hs]; exact ⟨k, rfl, ho⟩)
    | some b =>
      rw [hbo] at hb hs
      try dsimp only at hb hs
      obtain ⟨bi, rfl, hbi⟩ := hb
      have hsq1 := rsquare_ev p.at_ o.at_
      have hsq2 := rsquare_ev p.at_ b.at_
      (conv => whnf); repeat' ((first | intro g | refine Wit.mk _ (map_get ho rfl) ?_ | refine Wit.mk _ (map_get hbi rfl) ?_ | refine CallS.mk _ (hpl) ?_ | refine CallS.mk _ (hca) ?_ | refine CallS.mk _ (hsq1) ?_ | refine CallS.mk _ (hsq2) ?_ | refine st ?_ | (first | refine b1 ?_ ?_ | refine b2 ?_ ?_ | refine Br.mk ?_ ?_) <;> intro hc | exact rfl) <;> conv => whnf)
      · have hlt' : cmpFrom p o b < 0 := cmpFrom_lt.2 (.inl hc)
        rw [if_pos hlt'] at hs
        refine NxtS.mk (k + 1, (k : Int)) (by first | omega | (dsimp only; omega)) ⟨(by first | omega | (dsimp only; omega)), ?_⟩ (by (refine ⟨?_, ?_⟩ <;> repeat' (first | exact True.intro | refine ai ?_ | refine And.intro ?_ ?_)))
        try dsimp only
        rw [hs]; exact ⟨k, rfl, ho⟩
      · rename_i h1 h2
        have hlt' : cmpFrom p o b < 0 := cmpFrom_lt.2 (.inr ⟨h2, hc⟩)
        rw [if_pos hlt'] at hs
        refine NxtS.mk (k + 1, (k : Int)) (by first | omega | (dsimp only; omega)) ⟨(by first | omega | (dsimp only; omega)), ?_⟩ (by (refine ⟨?_, ?_⟩ <;> repeat' (first | exact True.intro | refine ai ?_ | refine And.intro ?_ ?_)))
        try dsimp only
        rw [hs]; exact ⟨k, rfl, ho⟩
      · rename_i h1 h2
        have hlt' : ¬ cmpFrom p o b < 0 := fun h => by
          rcases cmpFrom_lt.1 h with h | ⟨_, h⟩
          · exact h1 h
          · exact hc h
        rw [if_neg hlt'] at hs
        refine NxtS.mk (k + 1, (bi : Int)) (by first | omega | (dsimp only; omega)) ⟨(by first | omega | (dsimp only; omega)), ?_⟩ (by (refine ⟨?_, ?_⟩ <;> repeat' (first | exact True.intro | refine ai ?_ | refine And.intro ?_ ?_)))
        try dsimp only
        rw [hs]; exact ⟨bi, rfl, hbi⟩
      · rename_i h1
        have hlt' : ¬ cmpFrom p o b < 0 := fun h => by
          rcases cmpFrom_lt.1 h with h | ⟨h, _⟩
          · exact h1 h
          · exact hc h
        rw [if_neg hlt'] at hs
        refine NxtS.mk (k + 1, (bi : Int)) (by first | omega | (dsimp only; omega)) ⟨(by first | omega | (dsimp only; omega)), ?_⟩ (by (refine ⟨?_, ?_⟩ <;> repeat' (first | exact True.intro | refine ai ?_ | refine And.intro ?_ ?_)))
        try dsimp only
        rw [hs]; exact ⟨bi, rfl, hbi⟩
  · have : k = m.places.length := by omega
    subst this
    cases hbo : bestOf m.places p m.places.length with
    | none =>
      rw [hbo] at hb
      try dsimp only at hb
      subst hb
      (conv => whnf); repeat' ((first | intro g | refine st ?_ | (first | refine b1 ?_ ?_ | refine b2 ?_ ?_ | refine Br.mk ?_ ?_) <;> intro hc | exact rfl) <;> conv => whnf)
    | some b =>
      rw [hbo] at hb
      try dsimp only at hb
      obtain ⟨bi, rfl, hbi⟩ := hb
      (conv => whnf); repeat' ((first | intro g | refine Wit.mk _ (map_get hbi rfl) ?_ | refine st ?_ | (first | refine b1 ?_ ?_ | refine b2 ?_ ?_ | refine Br.mk ?_ ?_) <;> intro hc | exact rfl) <;> conv => whnf)
end
end Go.AM

set_option maxRecDepth 20000
namespace Go.AM

section
variable {m : GMap} (hlen : m.places.length < 1000000)
include hlen

set_option maxHeartbeats 4000000 in
theorem all_ev (d : Int) (hfit : SortFit cmpId (evList m.places d m.places.length)) :
    ∃ l' : List Event, l'.Perm (evList m.places d m.places.length) ∧ l'.Pairwise (NotAfter cmpId) ∧ Ev E 9 [m.v, vi d] ⟨.own 5 (l'.map Event.v), []⟩ := by
  have hfind := find_ev hlen
  have hcan := can_ev hlen
  have hcost := cost_ev hlen
  obtain ⟨l', hp1, hp2, hsort⟩ := sortFunc_Event (g := 26) cmpId_ok rfl cmpId_ev hfit
  refine ⟨l', hp1, hp2, ?_⟩
  have hll := hp1.length_eq
  refine Ev.of_s' E_9 (X_9 _) rfl ?_
  (conv => whnf); repeat' ((first | intro g | refine st ?_ | (first | refine b1 ?_ ?_ | refine b2 ?_ ?_ | refine Br.mk ?_ ?_) <;> intro hc | exact rfl) <;> conv => whnf)
  rename_i g1 g2
  refine LoopS.by (fun ((k, es, g5) : Nat × List Event × Nat) => ⟨[(1, vi d), (2, .ptr 48 g1 0 0), (5, .sl 97 g5 0 es.length), (14, .lit 7 (m.places.map Place.v)), (15, vnat (m.places.map Place.v).length), (16, vnat k)], [(48, ⟨g1, 4, false, false, some [m.v]⟩), (97, ⟨g5, 5, true, false, some (es.map Event.v)⟩)]⟩)
    (fun (k, es, _) => k ≤ m.places.length ∧ es = evList m.places d k) (fun (k, _) => m.places.length - k) (0, [], g) (by (refine ⟨?_, ?_⟩ <;> repeat' (first | exact True.intro | refine ai ?_ | refine And.intro ?_ ?_))) ⟨by simp, rfl⟩ ?_
  rintro ⟨k, es, g5⟩ ⟨hk, hes⟩
  try dsimp only at hk hes
  have hel := evList_len m.places d k
  rw [← hes] at hel
  by_cases hlt : k < m.places.length
  · obtain ⟨p, hpk⟩ : ∃ p, m.places[k]? = some p := ⟨_, get_lt hlt⟩
    have hs := evList_succ m.places d k
    rw [← hes] at hs
    have hfp := hfind p.id
    by_cases hd : p.dist = d
    case neg =>
      have he : evAt m.places d k = none := by simp [evAt, hpk, hd]
      rw [he] at hs
      (conv => whnf); repeat' ((first | intro g | refine Wit.mk _ (map_get hpk rfl) ?_ | refine CallS.mk _ (hfp) ?_ | refine st ?_ | (first | refine b1 ?_ ?_ | refine b2 ?_ ?_ | refine Br.mk ?_ ?_) <;> intro hc | exact rfl) <;> conv => whnf)
      all_goals exact NxtS.mk (k + 1, es, g5) (by first | omega | (dsimp only; omega)) ⟨(by first | omega | (dsimp only; omega)), by simpa using hs.symm⟩ (by (refine ⟨?_, ?_⟩ <;> repeat' (first | exact True.intro | refine ai ?_ | refine And.intro ?_ ?_)))
    by_cases hf : findP m.places p.id = k
    case neg =>
      have he : evAt m.places d k = none := by simp [evAt, hpk, hf]
      rw [he] at hs
      (conv => whnf); repeat' ((first | intro g | refine Wit.mk _ (map_get hpk rfl) ?_ | refine CallS.mk _ (hfp) ?_ | refine st ?_ | (first | refine b1 ?_ ?_ | refine b2 ?_ ?_ | refine Br.mk ?_ ?_) <;> intro hc | exact rfl) <;> conv => whnf)
      all_goals exact NxtS.mk (k + 1, es, g5) (by first | omega | (dsimp only; omega)) ⟨(by first | omega | (dsimp only; omega)), by simpa using hs.symm⟩ (by (refine ⟨?_, ?_⟩ <;> repeat' (first | exact True.intro | refine ai ?_ | refine And.intro ?_ ?_)))
    rw [hf] at hfp
    (conv => whnf); repeat' ((first | intro g | refine Wit.mk _ (map_get hpk rfl) ?_ | refine CallS.mk _ (hfp) ?_ | refine st ?_ | (first | refine b1 ?_ ?_ | refine b2 ?_ ?_ | refine Br.mk ?_ ?_) <;> intro hc | exact rfl) <;> conv => whnf)
    rename_i g7
    refine LoopS.by (fun ((i, cs, g8) : Nat × List Place × Nat) => ⟨[(1, vi d), (2, .ptr 48 g1 0 0), (5, .sl 97 g5 0 es.length), (14, .lit 7 (m.places.map Place.v)), (15, vnat (m.places.map Place.v).length), (16, vnat k),
        (7, .ptr 128 g7 0 0), (8, .sl 145 g8 0 cs.length), (34, .lit 7 (m.places.map Place.v)), (35, vnat (m.places.map Place.v).length), (36, vnat i)],
        [(48, ⟨g1, 4, false, false, some [m.v]⟩), (97, ⟨g5, 5, true, false, some (es.map Event.v)⟩), (128, ⟨g7, 7, false, false, some [p.v]⟩), (145, ⟨g8, 7, true, false, some (cs.map Place.v)⟩)]⟩)
      (fun (i, cs, _) => i ≤ m.places.length ∧ cs = canList m.places p i) (fun (i, _) => m.places.length - i) (0, [], g) (by (refine ⟨?_, ?_⟩ <;> repeat' (first | exact True.intro | refine ai ?_ | refine And.intro ?_ ?_))) ⟨by simp, rfl⟩ ?_
    rintro ⟨i, cs, g8⟩ ⟨hi, hcs⟩
    try dsimp only at hi hcs
    have hcl := canList_len m.places p i
    rw [← hcs] at hcl
    by_cases hlti : i < m.places.length
    · obtain ⟨o, ho⟩ : ∃ o, m.places[i]? = some o := ⟨_, get_lt hlti⟩
      have hs2 := canList_succ m.places p i
      rw [← hcs] at hs2
      have hfo := hfind o.id
      have hca := hcan p.id o.id
      by_cases hfi : findP m.places o.id = i
      case neg =>
        have hc : canAt m.places p i = none := by simp [canAt, ho, hfi]
        rw [hc] at hs2
        (conv => whnf); repeat' ((first | intro g | refine Wit.mk _ (map_get ho rfl) ?_ | refine CallS.mk _ (hfo) ?_ | refine CallS.mk _ (hca) ?_ | refine st ?_ | (first | refine b1 ?_ ?_ | refine b2 ?_ ?_ | refine Br.mk ?_ ?_) <;> intro hc | exact rfl) <;> conv => whnf)
        all_goals exact NxtS.mk (i + 1, cs, g8) (by first | omega | (dsimp only; omega)) ⟨(by first | omega | (dsimp only; omega)), by simpa using hs2.symm⟩ (by (refine ⟨?_, ?_⟩ <;> repeat' (first | exact True.intro | refine ai ?_ | refine And.intro ?_ ?_)))
      rw [hfi] at hfo
      by_cases hc0 : canP m.places p.id o.id = 0
      case neg =>
        have hc : canAt m.places p i = none := by simp [canAt, ho, hc0]
        rw [hc] at hs2
        (conv => whnf); repeat' ((first | intro g | refine Wit.mk _ (map_get ho rfl) ?_ | refine CallS.mk _ (hfo) ?_ | refine CallS.mk _ (hca) ?_ | refine st ?_ | (first | refine b1 ?_ ?_ | refine b2 ?_ ?_ | refine Br.mk ?_ ?_) <;> intro hc | exact rfl) <;> conv => whnf)
        all_goals exact NxtS.mk (i + 1, cs, g8) (by first | omega | (dsimp only; omega)) ⟨(by first | omega | (dsimp only; omega)), by simpa using hs2.symm⟩ (by (refine ⟨?_, ?_⟩ <;> repeat' (first | exact True.intro | refine ai ?_ | refine And.intro ?_ ?_)))
      rw [hc0] at hca
      have hc : canAt m.places p i = some o := by simp [canAt, ho, hfi, hc0]
      rw [hc] at hs2
      (conv => whnf); repeat' ((first | intro g | refine Wit.mk _ (map_get ho rfl) ?_ | refine CallS.mk _ (hfo) ?_ | refine CallS.mk _ (hca) ?_ | refine st ?_ | (first | refine b1 ?_ ?_ | refine b2 ?_ ?_ | refine Br.mk ?_ ?_) <;> intro hc | exact rfl) <;> conv => whnf)
      exact NxtS.mk (i + 1, cs ++ [o], g) (by first | omega | (dsimp only; omega)) ⟨(by first | omega | (dsimp only; omega)), by simpa using hs2.symm⟩ (by (refine ⟨?_, ?_⟩ <;> repeat' (first | exact True.intro | refine ai ?_ | refine And.intro ?_ ?_)))
    · have : i = m.places.length := by omega
      subst this
      have hev : evAt m.places d k = (match bestOf m.places p m.places.length with
        | some o => some ⟨4, if 1 < costP m.places p.id o.id then costP m.places p.id o.id else 1, p.id, o.id, 0⟩
        | none => none) := by
        simp only [evAt, hpk, hd, hf, and_self, if_true]
        try (cases bestOf m.places p m.places.length <;> rfl)
      unfold bestOf at hev
      rw [← hcs] at hev
      cases cs with
      | nil =>
        have hle := least_nil p
        dsimp only at hev
        (conv => whnf); repeat' ((first | intro g | refine Wit.mk _ (win_all (l := ([] : List Place)) rfl) ?_ | refine CallS.mk _ (hle) ?_ | refine st ?_ | (first | refine b1 ?_ ?_ | refine b2 ?_ ?_ | refine Br.mk ?_ ?_) <;> intro hc | exact rfl) <;> conv => whnf)
        rw [hev] at hs
        exact NxtS.mk (k + 1, es, g5) (by first | omega | (dsimp only; omega)) ⟨(by first | omega | (dsimp only; omega)), by simpa using hs.symm⟩ (by (refine ⟨?_, ?_⟩ <;> repeat' (first | exact True.intro | refine ai ?_ | refine And.intro ?_ ?_)))
      | cons x xs =>
        have hle := least_ev p (l := xs) (x0 := x) (by simp only [List.length_cons] at hcl; omega)
        dsimp only at hev
        generalize hxo : minF (cmpFrom p) xs x = o at hle hev
        have hco := hcost p.id o.id
        (conv => whnf); repeat' ((first | intro g | refine Wit.mk _ (win_all rfl) ?_ | refine CallS.mk _ (hle) ?_ | refine CallS.mk _ (hco) ?_ | refine st ?_ | (first | refine b1 ?_ ?_ | refine b2 ?_ ?_ | refine Br.mk ?_ ?_) <;> intro hc | exact rfl) <;> conv => whnf)
        rw [hev] at hs
        exact NxtS.mk (k + 1, es ++ [⟨4, if 1 < costP m.places p.id o.id then costP m.places p.id o.id else 1, p.id, o.id, 0⟩], g) (by first | omega | (dsimp only; omega)) ⟨(by first | omega | (dsimp only; omega)), by simpa using hs.symm⟩ (by (refine ⟨?_, ?_⟩ <;> repeat' (first | exact True.intro | refine ai ?_ | refine And.intro ?_ ?_)))
  · have : k = m.places.length := by omega
    subst this
    subst hes
    (conv => whnf); repeat' ((first | intro g | refine Need.mk (⟨rfl, rfl, rfl, by simp, Event.pures _⟩) ?_ | refine Wit.mk _ (win_all (by omega)) ?_ | refine CallS.mk _ (hsort) ?_ | refine st ?_ | (first | refine b1 ?_ ?_ | refine b2 ?_ ?_ | refine Br.mk ?_ ?_) <;> intro hc | exact rfl) <;> conv => whnf)
end
end Go.AM

set_option maxRecDepth 20000
namespace Go.AM

def Before (a b : Event) : Prop := a.id < b.id

theorem evAt_id {ps : List Place} {d : Int} {j : Nat} {e : Event} (h : evAt ps d j = some e) : findP ps e.id = j ∧ ∃ p, ps[j]? = some p ∧ e.id = p.id := by
  unfold evAt at h
  split at h
  · split at h
    · rename_i p hp hc
      split at h
      · injection h with h
        subst h
        exact ⟨hc.2, p, hp, rfl⟩
      · simp at h
    · simp at h
  · simp at h
theorem evList_id {ps : List Place} {d : Int} {k : Nat} {e : Event} (h : e ∈ evList ps d k) : ∃ j, j < k ∧ findP ps e.id = j := by
  simp only [evList, List.mem_filterMap] at h
  obtain ⟨j, hj, h⟩ := h
  exact ⟨j, by simpa using hj, (evAt_id h).1⟩

theorem ins_sorted {l : List Event} {e : Event} {n : Nat} (hs : l.Pairwise Before) (h1 : ∀ (i : Nat) x, i < n → l[i]? = some x → x.id < e.id) (h2 : ∀ x, l[n]? = some x → e.id < x.id) (hn : n ≤ l.length) :
    (l.take n ++ e :: l.drop n).Pairwise Before := by
  have hs' := hs
  rw [← List.take_append_drop n l, List.pairwise_append] at hs'
  obtain ⟨a1, a2, a3⟩ := hs'
  rw [List.pairwise_append]
  have hd : ∀ x ∈ l.drop n, e.id < x.id := by
    intro x hx
    cases hdr : l.drop n with
    | nil => rw [hdr] at hx; simp at hx
    | cons y t =>
      have hy : l[n]? = some y := by
        have := congrArg (·[0]?) hdr
        simpa using this
      have h3 := h2 y hy
      rw [hdr] at hx a2
      rcases List.mem_cons.1 hx with rfl | hx
      · exact h3
      · exact Int.lt_trans h3 ((List.pairwise_cons.1 a2).1 x hx)
  refine ⟨a1, List.pairwise_cons.2 ⟨fun x hx => hd x hx, a2⟩, fun a ha b hb => ?_⟩
  have ha' : a.id < e.id := by
    obtain ⟨i, hi⟩ := List.mem_iff_getElem?.1 ha
    have hlt : i < n := by
      have := (List.getElem?_eq_some_iff.1 hi).1
      simp at this; omega
    refine h1 i a hlt ?_
    rw [List.getElem?_take, if_pos hlt] at hi
    exact hi
  rcases List.mem_cons.1 hb with rfl | hb
  · exact ha'
  · exact Int.lt_trans ha' (hd b hb)
theorem ins_perm {l : List Event} {e : Event} {n : Nat} : (l.take n ++ e :: l.drop n).Perm (l ++ [e]) := by
  have h1 : (l.take n ++ e :: l.drop n).Perm (e :: (l.take n ++ l.drop n)) := List.perm_middle
  rw [List.take_append_drop] at h1
  exact h1.trans (List.perm_append_comm (l₁ := [e]))

section
variable {m : GMap} (hlen : m.places.length < 1000000)
include hlen

set_option maxHeartbeats 4000000 in
theorem rall_ev (d : Int) :
    ∃ l' : List Event, l'.Perm (evList m.places d m.places.length) ∧ l'.Pairwise Before ∧ Ev E 91 [m.v, vi d] ⟨.own 5 (l'.map Event.v), []⟩ := by
  have key := Ev.of_s (R := fun r => ∃ l' : List Event, l'.Perm (evList m.places d m.places.length) ∧ l'.Pairwise Before ∧ r = ⟨.own 5 (l'.map Event.v), []⟩) E_91 (X_91 [m.v, vi d]) rfl ?_
  · obtain ⟨res, h1, l', h2, h3, rfl⟩ := key
    exact ⟨l', h2, h3, h1⟩
  have hplace := rplace_ev hlen
  have hcost := rcost_ev hlen
  have hnear := nearest_ev hlen
  (conv => whnf); repeat' ((first | intro g | refine st ?_ | (first | refine b1 ?_ ?_ | refine b2 ?_ ?_ | refine Br.mk ?_ ?_) <;> intro hc | exact rfl) <;> conv => whnf)
  rename_i g1
  refine LoopS.by (fun ((k, es, g5) : Nat × List Event × Nat) => ⟨[(1, vi d), (2, .ptr 48 g1 0 0), (5, .sl 97 g5 0 es.length), (6, vnat k)], [(48, ⟨g1, 4, false, false, some [m.v]⟩), (97, ⟨g5, 5, true, false, some (es.map Event.v)⟩)]⟩)
    (fun (k, es, _) => k ≤ m.places.length ∧ es.Perm (evList m.places d k) ∧ es.Pairwise Before) (fun (k, _) => m.places.length - k) (0, [], g) (by (refine ⟨?_, ?_⟩ <;> repeat' (first | exact True.intro | refine ai ?_ | refine And.intro ?_ ?_))) ⟨by simp, .refl _, .nil⟩ ?_
  rintro ⟨k, es, g5⟩ ⟨hk, hes, hsrt⟩
  try dsimp only at hk hes hsrt
  have hel : es.length ≤ k := by rw [hes.length_eq]; exact evList_len m.places d k
  by_cases hlt : k < m.places.length
  · obtain ⟨p, hpk⟩ : ∃ p, m.places[k]? = some p := ⟨_, get_lt hlt⟩
    have hs := evList_succ m.places d k
    have hfp := hplace p.id
    by_cases hd : p.dist = d
    case neg =>
      have he : evAt m.places d k = none := by simp [evAt, hpk, hd]
      rw [he] at hs
      (conv => whnf); repeat' ((first | intro g | refine Wit.mk _ (map_get hpk rfl) ?_ | refine CallS.mk _ (hfp) ?_ | refine st ?_ | (first | refine b1 ?_ ?_ | refine b2 ?_ ?_ | refine Br.mk ?_ ?_) <;> intro hc | exact rfl) <;> conv => whnf)
      all_goals exact NxtS.mk (k + 1, es, g5) (by first | omega | (dsimp only; omega)) ⟨(by first | omega | (dsimp only; omega)), by rw [hs]; simpa using hes, hsrt⟩ (by (refine ⟨?_, ?_⟩ <;> repeat' (first | exact True.intro | refine ai ?_ | refine And.intro ?_ ?_)))
    by_cases hf : findP m.places p.id = k
    case neg =>
      have he : evAt m.places d k = none := by simp [evAt, hpk, hf]
      rw [he] at hs
      (conv => whnf); repeat' ((first | intro g | refine Wit.mk _ (map_get hpk rfl) ?_ | refine CallS.mk _ (hfp) ?_ | refine st ?_ | (first | refine b1 ?_ ?_ | refine b2 ?_ ?_ | refine Br.mk ?_ ?_) <;> intro hc | exact rfl) <;> conv => whnf)
      all_goals exact NxtS.mk (k + 1, es, g5) (by first | omega | (dsimp only; omega)) ⟨(by first | omega | (dsimp only; omega)), by rw [hs]; simpa using hes, hsrt⟩ (by (refine ⟨?_, ?_⟩ <;> repeat' (first | exact True.intro | refine ai ?_ | refine And.intro ?_ ?_)))
    rw [hf] at hfp
    have hn := hnear p
    cases hb : bestOf m.places p m.places.length with
    | none =>
      have he : evAt m.places d k = none := by simp [evAt, hpk, hd, hf, hb]
      rw [he] at hs
      rw [hb] at hn
      (conv => whnf); repeat' ((first | intro g | refine Wit.mk _ (map_get hpk rfl) ?_ | refine CallS.mk _ (hfp) ?_ | refine CallS.mk _ (hn) ?_ | refine st ?_ | (first | refine b1 ?_ ?_ | refine b2 ?_ ?_ | refine Br.mk ?_ ?_) <;> intro hc | exact rfl) <;> conv => whnf)
      all_goals exact NxtS.mk (k + 1, es, g5) (by first | omega | (dsimp only; omega)) ⟨(by first | omega | (dsimp only; omega)), by rw [hs]; simpa using hes, hsrt⟩ (by (refine ⟨?_, ?_⟩ <;> repeat' (first | exact True.intro | refine ai ?_ | refine And.intro ?_ ?_)))
    | some o =>
      have he : evAt m.places d k = some ⟨4, if 1 < costP m.places p.id o.id then costP m.places p.id o.id else 1, p.id, o.id, 0⟩ := by simp [evAt, hpk, hd, hf, hb]
      rw [he] at hs
      rw [hb] at hn
      have hco := hcost p.id o.id
      (conv => whnf); repeat' ((first | intro g | refine Wit.mk _ (map_get hpk rfl) ?_ | refine CallS.mk _ (hfp) ?_ | refine CallS.mk _ (hn) ?_ | refine st ?_ | (first | refine b1 ?_ ?_ | refine b2 ?_ ?_ | refine Br.mk ?_ ?_) <;> intro hc | exact rfl) <;> conv => whnf)
      refine LoopS.by (fun (at_ : Nat) => ⟨[(1, vi d), (2, .ptr 48 g1 0 0), (5, .sl 97 g5 0 es.length), (6, vnat k), (7, .ptr 128 g 0 0), (8, vi o.id), (10, vnat at_)],
        [(48, ⟨g1, 4, false, false, some [m.v]⟩), (97, ⟨g5, 5, true, false, some (es.map Event.v)⟩), (128, ⟨g, 7, false, false, some [p.v]⟩)]⟩)
        (fun at_ => at_ ≤ es.length ∧ ∀ (i : Nat) x, i < at_ → es[i]? = some x → x.id < p.id) (fun at_ => es.length - at_) 0 (by (refine ⟨?_, ?_⟩ <;> repeat' (first | exact True.intro | refine ai ?_ | refine And.intro ?_ ?_))) ⟨by simp, by simp⟩ ?_
      rintro a ⟨ha, hbef⟩
      by_cases hal : a < es.length
      · obtain ⟨e, hea⟩ : ∃ e, es[a]? = some e := ⟨_, get_lt hal⟩
        by_cases hid : e.id < p.id
        · (conv => whnf); repeat' ((first | intro g | refine Wit.mk _ (map_get hea rfl) ?_ | refine st ?_ | (first | refine b1 ?_ ?_ | refine b2 ?_ ?_ | refine Br.mk ?_ ?_) <;> intro hc | exact rfl) <;> conv => whnf)
          refine NxtS.mk (a + 1) (by first | omega | (dsimp only; omega)) ⟨(by first | omega | (dsimp only; omega)), fun i x hi hx => ?_⟩ (by (refine ⟨?_, ?_⟩ <;> repeat' (first | exact True.intro | refine ai ?_ | refine And.intro ?_ ?_)))
          by_cases e1 : i = a
          · subst e1; rw [hea] at hx; injection hx with hx; subst hx; exact hid
          · exact hbef i x (by omega) hx
        · have hidne : p.id < e.id := by
            rcases Int.lt_trichotomy e.id p.id with h | h | h
            · exact absurd h hid
            · obtain ⟨j, hj, hj2⟩ := evList_id (hes.mem_iff.1 (List.mem_of_getElem? hea))
              rw [h, hf] at hj2
              omega
            · exact h
          (conv => whnf); repeat' ((first | intro g | refine Wit.mk _ (map_get hea rfl) ?_ | refine Wit.mk _ (window_map _ _ _ _) ?_ | refine CallS.mk _ (hco) ?_ | refine st ?_ | (first | refine b1 ?_ ?_ | refine b2 ?_ ?_ | refine Br.mk ?_ ?_) <;> intro hc | exact rfl) <;> conv => whnf)
          refine NxtS.mk (k + 1, es.take a ++ ⟨4, if 1 < costP m.places p.id o.id then costP m.places p.id o.id else 1, p.id, o.id, 0⟩ :: es.drop a, g) (by first | omega | (dsimp only; omega)) ⟨(by first | omega | (dsimp only; omega)), ?_, ins_sorted hsrt hbef (fun x hx => ?_) ha⟩ ?_
          · rw [hs]; exact ins_perm.trans (hes.append_right _)
          · rw [hea] at hx; injection hx with hx; subst hx; exact hidne
          · (refine ⟨?_, ?_⟩ <;> repeat' (first | exact True.intro | refine ai ?_ | refine And.intro ?_ ?_))
            all_goals (conv => whnf)
            all_goals first | (simp [List.take_of_length_le]; done) | (simp [List.take_of_length_le]; rfl)
      · have : a = es.length := by omega
        subst this
        (conv => whnf); repeat' ((first | intro g | refine Wit.mk _ (window_map _ _ _ _) ?_ | refine CallS.mk _ (hco) ?_ | refine st ?_ | (first | refine b1 ?_ ?_ | refine b2 ?_ ?_ | refine Br.mk ?_ ?_) <;> intro hc | exact rfl) <;> conv => whnf)
        refine NxtS.mk (k + 1, es.take es.length ++ ⟨4, if 1 < costP m.places p.id o.id then costP m.places p.id o.id else 1, p.id, o.id, 0⟩ :: es.drop es.length, g) (by first | omega | (dsimp only; omega)) ⟨(by first | omega | (dsimp only; omega)), ?_, ins_sorted hsrt hbef (fun x hx => ?_) (Nat.le_refl _)⟩ ?_
        · rw [hs]; exact ins_perm.trans (hes.append_right _)
        · simp at hx
        · (refine ⟨?_, ?_⟩ <;> repeat' (first | exact True.intro | refine ai ?_ | refine And.intro ?_ ?_))
          all_goals (conv => whnf)
          all_goals first | (simp [List.take_of_length_le]; done) | (simp [List.take_of_length_le]; rfl)
  · have : k = m.places.length := by omega
    subst this
    (conv => whnf); repeat' ((first | intro g | refine Wit.mk _ (win_all rfl) ?_ | refine st ?_ | (first | refine b1 ?_ ?_ | refine b2 ?_ ?_ | refine Br.mk ?_ ?_) <;> intro hc | exact rfl) <;> conv => whnf)
    all_goals exact ⟨es, hes, hsrt, rfl⟩
end
end Go.AM

set_option maxRecDepth 20000
namespace Go.AM

theorem cloneE_ev (l : List Edge) (h : l.length < 1000000) : Ev E 28 [.lit 4 (l.map Edge.v)] ⟨.own 4 (l.map Edge.v), []⟩ :=
  Ev.ext (by rw [X_28]; simp [cloneV]; omega)
theorem cloneF_ev (l : List Face) (h : l.length < 1000000) : Ev E 29 [.lit 5 (l.map Face.v)] ⟨.own 5 (l.map Face.v), []⟩ :=
  Ev.ext (by rw [X_29]; simp [cloneV]; omega)
theorem cloneW_ev (l : List Way) (h : l.length < 1000000) : Ev E 30 [.lit 8 (l.map Way.v)] ⟨.own 8 (l.map Way.v), []⟩ :=
  Ev.ext (by rw [X_30]; simp [cloneV]; omega)
theorem cloneP_ev (l : List Place) (h : l.length < 1000000) : Ev E 31 [.lit 7 (l.map Place.v)] ⟨.own 7 (l.map Place.v), []⟩ :=
  Ev.ext (by rw [X_31]; simp [cloneV]; omega)
theorem clonePt_ev (l : List Pt) (h : l.length < 1000000) : Ev E 32 [ptsV l] ⟨.own 2 (l.map Pt.v), []⟩ :=
  Ev.ext (by rw [X_32]; simp [cloneV, ptsV]; omega)

/-- lists that are not too long -/
structure GMap.Fit (m : GMap) : Prop where
  e : m.edges.length < 1000000
  f : m.faces.length < 1000000
  w : m.ways.length < 1000000
  p : m.places.length < 1000000
  el : ∀ e ∈ m.edges, e.line.length < 1000000
  wl : ∀ w ∈ m.ways, w.line.length < 1000000

def orS (a b : Str) : Str := if a = [] then b else a
theorem orS_ev (a b : Str) : Ev E 17 [.lit 1 [.str a, .str b]] ⟨.str (orS a b), []⟩ := by
  refine Ev.of_s' E_17 (X_17 _) rfl ?_
  (conv => whnf); repeat' ((first | intro g | refine st ?_ | (first | refine b1 ?_ ?_ | refine b2 ?_ ?_ | refine Br.mk ?_ ?_) <;> intro hc | exact rfl) <;> conv => whnf)
  refine LoopS.by (fun i : Nat => ⟨[(3, .str []), (6, .lit 1 [.str a, .str b]), (7, vnat 2), (8, vnat i)], []⟩) (fun i => i ≤ 2 ∧ (1 ≤ i → a = []) ∧ (2 ≤ i → b = [])) (fun i => 2 - i) 0 (by (refine ⟨?_, ?_⟩ <;> repeat' (first | exact True.intro | refine ai ?_ | refine And.intro ?_ ?_))) ?_ ?_
  · simp
  rintro i ⟨hi, h1, h2⟩
  rcases (by omega : i = 0 ∨ i = 1 ∨ i = 2) with rfl | rfl | rfl
  · (conv => whnf); repeat' ((first | intro g | refine st ?_ | (first | refine b1 ?_ ?_ | refine b2 ?_ ?_ | refine Br.mk ?_ ?_) <;> intro hc | exact rfl) <;> conv => whnf)
    · simp [orS, hc]
    · refine NxtS.mk (1) (by first | omega | (dsimp only; omega)) ?_ (by (refine ⟨?_, ?_⟩ <;> repeat' (first | exact True.intro | refine ai ?_ | refine And.intro ?_ ?_)))
      exact ⟨by omega, fun _ => by simpa using hc, fun h => by omega⟩
  · have ha := h1 (by omega)
    (conv => whnf); repeat' ((first | intro g | refine st ?_ | (first | refine b1 ?_ ?_ | refine b2 ?_ ?_ | refine Br.mk ?_ ?_) <;> intro hc | exact rfl) <;> conv => whnf)
    · simp [orS, ha]
    · refine NxtS.mk (2) (by first | omega | (dsimp only; omega)) ?_ (by (refine ⟨?_, ?_⟩ <;> repeat' (first | exact True.intro | refine ai ?_ | refine And.intro ?_ ?_)))
      exact ⟨by omega, fun _ => ha, fun _ => by simpa using hc⟩
  · have ha := h1 (by omega)
    have hb := h2 (by omega)
    (conv => whnf); repeat' ((first | intro g | refine st ?_ | (first | refine b1 ?_ ?_ | refine b2 ?_ ?_ | refine Br.mk ?_ ?_) <;> intro hc | exact rfl) <;> conv => whnf)
    all_goals simp [orS, ha, hb]

theorem copied_ev {m : GMap} (h : m.Fit) : Ev E 16 [m.v] ⟨.agg [.own 4 (m.edges.map Edge.v), .own 5 (m.faces.map Face.v), .own 8 (m.ways.map Way.v), .own 7 (m.places.map Place.v)], []⟩ := by
  have hle := h.e
  have hlw := h.w
  have c1 := cloneE_ev m.edges h.e
  have c2 := cloneF_ev m.faces h.f
  have c3 := cloneW_ev m.ways h.w
  have c4 := cloneP_ev m.places h.p
  refine Ev.of_s' E_16 (X_16 _) rfl ?_
  (conv => whnf); repeat' ((first | intro g | refine CallS.mk _ (c1) ?_ | refine CallS.mk _ (c2) ?_ | refine CallS.mk _ (c3) ?_ | refine CallS.mk _ (c4) ?_ | refine st ?_ | (first | refine b1 ?_ ?_ | refine b2 ?_ ?_ | refine Br.mk ?_ ?_) <;> intro hc | exact rfl) <;> conv => whnf)
  rename_i g1 g2 gE gF gW gP
  have hE : ∀ {l : List Edge} {i : Nat} {x : Edge}, l[i]? = some x → (l.map Edge.v).set (i : Int).toNat (.agg [vi x.id, .lit 2 (x.line.map Pt.v), vi x.left, vi x.right]) = l.map Edge.v := fun h => set_same h
  have hW : ∀ {l : List Way} {i : Nat} {x : Way}, l[i]? = some x → (l.map Way.v).set (i : Int).toNat (.agg [vi x.id, .lit 2 (x.line.map Pt.v), vi x.level, .str x.cls, .str x.name, .bool x.stairs, vi x.weight, vi x.dist]) = l.map Way.v := fun h => set_same h
  refine LoopS.by (fun (i : Nat) => ⟨[(2, .ptr 48 g2 0 0), (3, .ptr 64 g 0 0), (21, vnat (m.edges.map Edge.v).length), (22, vnat i)],
      [(64, ⟨g, 4, false, false, some [.agg [.sl 144 gE 0 (m.edges.map Edge.v).length, .sl 192 gF 0 (m.faces.map Face.v).length, .sl 240 gW 0 (m.ways.map Way.v).length, .sl 288 gP 0 (m.places.map Place.v).length]]⟩),
       (48, ⟨g2, 4, false, false, some [.agg [.lit 4 [], .lit 5 [], .lit 8 [], .lit 7 []]]⟩),
       (144, ⟨gE, 4, true, false, some (m.edges.map Edge.v)⟩), (192, ⟨gF, 5, true, false, some (m.faces.map Face.v)⟩), (240, ⟨gW, 8, true, false, some (m.ways.map Way.v)⟩), (288, ⟨gP, 7, true, false, some (m.places.map Place.v)⟩)]⟩)
    (fun i => i ≤ m.edges.length) (fun i => m.edges.length - i) 0 (by (refine ⟨?_, ?_⟩ <;> repeat' (first | exact True.intro | refine ai ?_ | refine And.intro ?_ ?_))) (by simp) ?_
  rintro i hi
  by_cases hlt : i < m.edges.length
  · obtain ⟨e, he⟩ : ∃ e, m.edges[i]? = some e := ⟨_, get_lt hlt⟩
    have hcl := clonePt_ev e.line (h.el e (List.mem_of_getElem? he))
    (conv => whnf); repeat' ((first | intro g | refine Wit.mk _ (map_get he rfl) ?_ | refine CallS.mk _ (hcl) ?_ | refine st ?_ | (first | refine b1 ?_ ?_ | refine b2 ?_ ?_ | refine Br.mk ?_ ?_) <;> intro hc | exact rfl) <;> conv => whnf)
    have e1 : (⟨gE, 4, true, false, some ((m.edges.map Edge.v).set (i : Int).toNat (.agg [vi e.id, .lit 2 (e.line.map Pt.v), vi e.left, vi e.right]))⟩ : Obj) = ⟨gE, 4, true, false, some (m.edges.map Edge.v)⟩ := by rw [hE he]
    exact NxtS.mk (i + 1) (by first | omega | (dsimp only; omega)) (by omega) (by (refine ⟨?_, ?_⟩ <;> repeat' (first | exact True.intro | refine And.intro (e1) ?_ | refine ai ?_ | refine And.intro ?_ ?_)))
  obtain rfl : i = m.edges.length := by omega
  (conv => whnf); repeat' ((first | intro g | refine st ?_ | (first | refine b1 ?_ ?_ | refine b2 ?_ ?_ | refine Br.mk ?_ ?_) <;> intro hc | exact rfl) <;> conv => whnf)
  refine LoopS.by (fun (i : Nat) => ⟨[(2, .ptr 48 g2 0 0), (3, .ptr 64 g 0 0), (40, vnat (m.ways.map Way.v).length), (41, vnat i)],
      [(64, ⟨g, 4, false, false, some [.agg [.sl 144 gE 0 (m.edges.map Edge.v).length, .sl 192 gF 0 (m.faces.map Face.v).length, .sl 240 gW 0 (m.ways.map Way.v).length, .sl 288 gP 0 (m.places.map Place.v).length]]⟩),
       (48, ⟨g2, 4, false, false, some [.agg [.lit 4 [], .lit 5 [], .lit 8 [], .lit 7 []]]⟩),
       (144, ⟨gE, 4, true, false, some (m.edges.map Edge.v)⟩), (192, ⟨gF, 5, true, false, some (m.faces.map Face.v)⟩), (240, ⟨gW, 8, true, false, some (m.ways.map Way.v)⟩), (288, ⟨gP, 7, true, false, some (m.places.map Place.v)⟩)]⟩)
    (fun i => i ≤ m.ways.length) (fun i => m.ways.length - i) 0 (by (refine ⟨?_, ?_⟩ <;> repeat' (first | exact True.intro | refine ai ?_ | refine And.intro ?_ ?_))) (by simp) ?_
  rintro i hi
  by_cases hlt : i < m.ways.length
  · obtain ⟨e, he⟩ : ∃ e, m.ways[i]? = some e := ⟨_, get_lt hlt⟩
    have hcl := clonePt_ev e.line (h.wl e (List.mem_of_getElem? he))
    (conv => whnf); repeat' ((first | intro g | refine Wit.mk _ (map_get he rfl) ?_ | refine CallS.mk _ (hcl) ?_ | refine st ?_ | (first | refine b1 ?_ ?_ | refine b2 ?_ ?_ | refine Br.mk ?_ ?_) <;> intro hc | exact rfl) <;> conv => whnf)
    have e1 : (⟨gW, 8, true, false, some ((m.ways.map Way.v).set (i : Int).toNat (.agg [vi e.id, .lit 2 (e.line.map Pt.v), vi e.level, .str e.cls, .str e.name, .bool e.stairs, vi e.weight, vi e.dist]))⟩ : Obj) = ⟨gW, 8, true, false, some (m.ways.map Way.v)⟩ := by rw [hW he]
    exact NxtS.mk (i + 1) (by first | omega | (dsimp only; omega)) (by omega) (by (refine ⟨?_, ?_⟩ <;> repeat' (first | exact True.intro | refine And.intro (e1) ?_ | refine ai ?_ | refine And.intro ?_ ?_)))
  obtain rfl : i = m.ways.length := by omega
  (conv => whnf); repeat' ((first | intro g | refine Wit.mk _ (win_self rfl) ?_ | refine st ?_ | (first | refine b1 ?_ ?_ | refine b2 ?_ ?_ | refine Br.mk ?_ ?_) <;> intro hc | exact rfl) <;> conv => whnf)

theorem delete_ev {l : List Place} {i : Nat} (hi : i < l.length) (h : l.length < 1000000) : Ev E 18 [.msl 7 (l.map Place.v) 0 l.length, vnat i, vi (IntKind.i64.wrap ((i : Int) + 1))] ⟨.sl 0 0 0 (l.length - 1), [(0, (l.eraseIdx i).map Place.v ++ [(Place.mk 0 0 0 [] [] 0 0).v])]⟩ := by
  have hw : IntKind.i64.wrap ((i : Int) + 1) = ((i + 1 : Nat) : Int) := (wrap64 (by omega) (by omega)).trans (by omega)
  rw [hw]
  refine Ev.of_s' E_18 (X_18 _) rfl ?_
  have hwin : window (l.map Place.v) (0 + ((i + 1 : Nat) : Int).toNat) (l.length - ((i + 1 : Nat) : Int).toNat) = (l.drop (i + 1)).map Place.v := by
    rw [window_map]
    congr 1
    rw [List.take_of_length_le (by simp)]
    simp
  (conv => whnf); repeat' ((first | intro g | refine Need.mk (by first | ((and_intros <;> first | rfl | exact arePure_overwrite (arePure_overwrite (Place.pures _) (Place.pures _)) (arePure_replicate rfl) | exact arePure_win (arePure_overwrite (arePure_overwrite (Place.pures _) (Place.pures _)) (arePure_replicate rfl)) | (simp only [overwrite, window, List.length_map, List.length_append, List.length_cons, List.length_nil, List.length_take, List.length_drop]; omega) | omega)) | fail) ?_ | refine Wit.mk _ (hwin) ?_ | refine st ?_ | (first | refine b1 ?_ ?_ | refine b2 ?_ ?_ | refine Br.mk ?_ ?_) <;> intro hc | exact rfl) <;> conv => whnf)
  obtain ⟨A, x, B, rfl, hA⟩ : ∃ A x B, l = A ++ x :: B ∧ A.length = i := ⟨l.take i, l[i], l.drop (i + 1), by simp, by simp; omega⟩
  have e1 : (A ++ x :: B).drop (i + 1) = B := by
    rw [← hA]; simp [List.drop_append]
  have e2 : (A ++ x :: B).eraseIdx i = A ++ B := by
    rw [← hA]; simp [List.eraseIdx_append_of_length_le]
  have e3 : ((i : Int).toNat - 0 + ((B).map Place.v).length) = A.length + B.length := by simp; omega
  rw [e1, e2, e3]
  have e4 : ((A.length + B.length : Nat) : Int).toNat = A.length + B.length := by omega
  have e5 : (((A ++ x :: B).length : Nat) : Int).toNat - (A.length + B.length) = 1 := by simp; omega
  have e6 : (A ++ x :: B).length - 1 = A.length + B.length := by simp
  rw [e4, e5, e6]
  subst hA
  show (⟨V.sl 0 0 0 _, [(0, _)]⟩ : Res) = _
  congr 3
  simp [overwrite, List.take_append, List.drop_append]
  rw [List.take_of_length_le (by simp), List.drop_eq_nil_of_le (by simp; omega), List.drop_eq_nil_of_le (by simp; omega), List.drop_eq_nil_of_le (by simp; omega), List.drop_eq_nil_of_le (by simp; omega)]
  rfl

def joined (a b : Place) : Place := { b with weight := if 255 < w64 (b.weight + a.weight) then 255 else w64 (b.weight + a.weight), name := orS b.name a.name }
/-- what becomes of the places -/
def applyPs (ps : List Place) (place into : Int) : List Place :=
  match ps[(findP ps place).toNat]?, ps[(findP ps into).toNat]? with
  | some a, some b => (ps.set (findP ps into).toNat (joined a b)).eraseIdx (findP ps place).toNat
  | _, _ => []
def GMap.zero : GMap := ⟨[], [], [], []⟩

set_option maxHeartbeats 2000000 in
theorem apply_ev {m : GMap} (h : m.Fit) (place into : Int) : Ev E 7 [m.v, vi place, vi into] ⟨if canP m.places place into = 0 then
      .tuple [.agg [.own 4 (m.edges.map Edge.v), .own 5 (m.faces.map Face.v), .own 8 (m.ways.map Way.v), .own 7 ((applyPs m.places place into).map Place.v)], vi 0]
    else .tuple [GMap.zero.v, vi (canP m.places place into)], []⟩ := by
  have hcan := can_ev h.p place into
  have hboth := both_ev h.p place into
  by_cases hc0 : canP m.places place into = 0
  case neg =>
    rw [if_neg hc0]
    refine Ev.of_s' E_7 (X_7 _) rfl ?_
    (conv => whnf); repeat' ((first | intro g | refine CallS.mk _ (hcan) ?_ | refine st ?_ | (first | refine b1 ?_ ?_ | refine b2 ?_ ?_ | refine Br.mk ?_ ?_) <;> intro hc | exact rfl) <;> conv => whnf)
  rw [if_pos hc0]
  rw [hc0] at hcan
  rcases find_cases m.places place with h1 | ⟨i, a, h1, ha, hia⟩
  · exact absurd hc0 (by simp [canP, h1])
  rcases find_cases m.places into with h2 | ⟨k, b, h2, hb, hkb⟩
  · exact absurd hc0 (by simp [canP, h2])
  have hcop := copied_ev h
  rw [h1, h2] at hboth
  have hil : i < m.places.length := (List.getElem?_eq_some_iff.1 ha).1
  have hkl : k < m.places.length := (List.getElem?_eq_some_iff.1 hb).1
  have hik : i ≠ k := by
    intro e; subst e
    rw [ha] at hb; injection hb with hb; subst hb
    have : canPP place into a a = 1 := by simp [canPP, ← hia, ← hkb]
    simp [canP, h1, h2, ha, this] at hc0
  have hp := h.p
  refine Ev.of_s' E_7 (X_7 _) rfl ?_
  have hdel : ∀ v1, Ev E 18 [.msl 7 (((m.places.map Place.v).set (k : Int).toNat v1).set (k : Int).toNat (joined a b).v) 0 (m.places.map Place.v).length, vnat i, vi (IntKind.i64.wrap ((i : Int) + 1))] ⟨.sl 0 0 0 (m.places.length - 1), [(0, ((m.places.set k (joined a b)).eraseIdx i).map Place.v ++ [(Place.mk 0 0 0 [] [] 0 0).v])]⟩ := by
    intro v1
    have := delete_ev (l := m.places.set k (joined a b)) (i := i) (by simpa using hil) (by simpa using hp)
    rw [List.set_set, ← List.map_set]
    simpa using this
  have hle : m.places.length - 1 = ((m.places.set k (joined a b)).eraseIdx i).length := by simp [List.length_eraseIdx, hil]
  have hap : applyPs m.places place into = (m.places.set k (joined a b)).eraseIdx i := by simp [applyPs, h1, h2, ha, hb]
  rw [hap]
  (conv => whnf); repeat' ((first | intro g | refine Wit.mk _ (map_get ha rfl) ?_ | refine Wit.mk _ (map_get hb rfl) ?_ | refine Wit.mk _ (get_set (map_get hb rfl)) ?_ | refine Wit.mk _ (get_set (get_set (map_get hb rfl))) ?_ | refine Wit.mk _ (win_pre hle) ?_ | refine Wit.mk _ (win_all (by simp)) ?_ | refine CallS.mk _ (hcan) ?_ | refine CallS.mk _ (hboth) ?_ | refine CallS.mk _ (hcop) ?_ | refine CallS.mk _ (orS_ev _ _) ?_ | refine CallS.mk _ (hdel _) ?_ | refine st ?_ | (first | refine b1 ?_ ?_ | refine b2 ?_ ?_ | refine Br.mk ?_ ?_) <;> intro hc | exact rfl) <;> conv => whnf)
  all_goals trace_state
end Go.AM
