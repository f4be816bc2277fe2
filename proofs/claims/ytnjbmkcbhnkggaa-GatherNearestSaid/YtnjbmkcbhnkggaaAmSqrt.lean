/-
  math.Sqrt of an int: there is a root, and it is an int. Own work.
-/
import Derived.Test.YtnjbmkcbhnkggaaAmSim
set_option linter.unusedSimpArgs false
namespace Go.AM
open Ieee

theorem log2_lt_of {n k : Nat} (h : n < 2 ^ k) (h0 : n ≠ 0) : n.log2 < k := (Nat.log2_lt h0).2 h

/-- what is kept of a number whose last digit lies so -/
theorem kept_bound {mag : Nat} : Toward.even.cut false (mag <<< (52 - mag.log2)) (mag.log2 - 52) ≤ 9007199254740992 := by
  have h1 : mag < 2 ^ (mag.log2 + 1) := Nat.lt_log2_self
  have key : mag <<< (52 - mag.log2) / (1 <<< min (mag.log2 - 52) ((mag <<< (52 - mag.log2)).log2 + 2)) < 9007199254740992 := by
    by_cases he : mag.log2 ≤ 52
    · have e2 : mag.log2 - 52 = 0 := by omega
      rw [e2, Nat.zero_min]
      rw [Nat.shiftLeft_eq, Nat.shiftLeft_eq, Nat.pow_zero, Nat.mul_one, Nat.div_one]
      calc mag * 2 ^ (52 - mag.log2) < 2 ^ (mag.log2 + 1) * 2 ^ (52 - mag.log2) := Nat.mul_lt_mul_of_pos_right h1 (Nat.two_pow_pos _)
        _ = 2 ^ 53 := by rw [← Nat.pow_add]; congr 1; omega
        _ = 9007199254740992 := by decide
    · have e1 : 52 - mag.log2 = 0 := by omega
      rw [e1]
      simp only [Nat.shiftLeft_zero]
      rw [Nat.min_eq_left (by omega)]
      simp only [Nat.shiftLeft_eq, Nat.one_mul]
      refine Nat.div_lt_of_lt_mul ?_
      calc mag < 2 ^ (mag.log2 + 1) := h1
        _ = 2 ^ (mag.log2 - 52) * 2 ^ 53 := by rw [← Nat.pow_add]; congr 1; omega
        _ = 2 ^ (mag.log2 - 52) * 9007199254740992 := by congr 1
  unfold Toward.cut
  simp only
  generalize mag <<< (52 - mag.log2) / (1 <<< min (mag.log2 - 52) ((mag <<< (52 - mag.log2)).log2 + 2)) = low at key ⊢
  have hb : ∀ b : Bool, low + b.toNat ≤ 9007199254740992 := fun b => by have := Bool.toNat_le b; omega
  exact hb _

theorem nearest_bound {mag : Nat} {place : Int} (h0 : mag ≠ 0) (h1 : -1000 ≤ place + mag.log2) (h2 : place + mag.log2 ≤ 200) :
    ∃ w : Nat, double.nearest false mag place = w ∧ w ≤ 4503599627370496 * ((place + mag.log2 + 1022).toNat + 2) := by
  refine ⟨_, rfl, ?_⟩
  unfold Format.nearest
  rw [if_neg h0]
  have e1 : double.leastPlace = -1074 := by simp [Format.leastPlace, double]
  have e2 : double.fractionBits = 52 := rfl
  have e3 : double.binade = 4503599627370496 := by simp [Format.binade, double]
  have e4 : max (place + (mag.log2 : Int) - (double.fractionBits : Nat)) double.leastPlace = place + mag.log2 - 52 := by
    rw [e1, e2]; omega
  rw [e4]
  simp only [Format.word, e1, e3]
  have a1 : (place - (place + (mag.log2 : Int) - 52)).toNat = 52 - mag.log2 := by omega
  have a2 : (place + (mag.log2 : Int) - 52 - place).toNat = mag.log2 - 52 := by omega
  have a3 : (place + (mag.log2 : Int) - 52 - -1074).toNat = (place + mag.log2 + 1022).toNat := by congr 1; omega
  rw [a1, a2, a3]
  have hk := kept_bound (mag := mag)
  simp only [Bool.false_eq_true, if_false]
  refine Nat.le_trans (Nat.min_le_left _ _) ?_
  rw [Nat.mul_add, Nat.mul_comm]
  exact Nat.add_le_add_left hk _

theorem lp : double.leastPlace = -1074 := by simp [Format.leastPlace, double]
theorem bi : double.binade = 4503599627370496 := by simp [Format.binade, double]
theorem sw : double.signWeight = 9223372036854775808 := by simp [Format.signWeight, double]
theorem ir : double.infRung = 9218868437227405312 := by simp [Format.infRung, Format.binade, double]

theorem read_bound {w T : Nat} (hT : w ≤ 4503599627370496 * (T + 2)) (hT2 : T ≤ 1290) : ∃ m p, double.read w = .number false m p ∧ m < 9007199254740992 ∧ -1074 ≤ p ∧ p ≤ -1072 + (T : Int) := by
  have hq : w / 4503599627370496 ≤ T + 2 := Nat.div_le_of_le_mul hT
  have h : w ≤ 4503599627370496 * 1292 := Nat.le_trans hT (Nat.mul_le_mul_left _ (by omega))
  have hlt : w < 9223372036854775808 := Nat.lt_of_le_of_lt h (by decide)
  have hlt2 : w < 9218868437227405312 := Nat.lt_of_le_of_lt h (by decide)
  have h1 : w / 9223372036854775808 = 0 := Nat.div_eq_of_lt hlt
  have h2 : w % 9223372036854775808 = w := Nat.mod_eq_of_lt hlt
  have hneg : (w / 9223372036854775808 % 2 == 1) = false := by rw [h1]; rfl
  unfold Format.read
  simp only [lp, bi, sw, ir, h2, hneg]
  by_cases hb : w < 4503599627370496
  · simp only [hb, if_true]
    exact ⟨w, -1074, rfl, Nat.lt_trans hb (by decide), by decide, by clear h1 h2 hneg hb h hlt hlt2 hq hT; omega⟩
  · have hc := hlt2
    simp only [hb, hc, if_true, if_false]
    refine ⟨4503599627370496 + w % 4503599627370496, -1074 + ((w / 4503599627370496 - 1 : Nat) : Int), rfl, ?_, ?_, ?_⟩
    · have h9 := Nat.mod_lt w (show 0 < 4503599627370496 by decide)
      clear h1 h2 hneg hc hb h hlt hlt2 hT hq
      generalize w % 4503599627370496 = r at h9 ⊢
      omega
    · clear h1 h2 hneg hc hb h hlt hlt2 hT hq
      generalize w / 4503599627370496 - 1 = q
      omega
    · clear h1 h2 hneg hc hb h hlt hlt2 hT
      generalize w / 4503599627370496 = q at hq ⊢
      omega

theorem rootFrom_le (n : Nat) : ∀ (todo root : Nat), root * root ≤ n → Datum.rootFrom n todo root * Datum.rootFrom n todo root ≤ n
  | 0, root, h => h
  | todo + 1, root, h => by
    unfold Datum.rootFrom
    by_cases h' : (root + 1 <<< todo) * (root + 1 <<< todo) ≤ n
    · simp only [h', if_true]; exact rootFrom_le n todo _ h'
    · simp only [h', if_false]; exact rootFrom_le n todo _ h

theorem sqrt_int {n : Int} (h0 : 0 < n) (h1 : n ≤ 9223372036854775807) :
    ∃ r m, FloatKind.f64.format.sqrt (FloatKind.f64.nearest n) = some r ∧ (FloatKind.f64.decode r).toInt .zero = some m ∧ 0 ≤ m ∧ m ≤ 9223372036854775807 := by
  have hn0 : n.natAbs ≠ 0 := by omega
  have hlog : n.natAbs.log2 < 63 := log2_lt_of (by
    have : (2 : Nat) ^ 63 = 9223372036854775808 := by decide
    omega) hn0
  have eN : FloatKind.f64.nearest n = double.nearest false n.natAbs 0 := by
    have : decide (n < 0) = false := by simp; omega
    simp only [FloatKind.nearest, FloatKind.encode, FloatKind.format, Format.write, this]
  obtain ⟨w, hw, hwb⟩ := nearest_bound (mag := n.natAbs) (place := 0) hn0 (by omega) (by omega)
  obtain ⟨m, p, hr, hm, hp0, hp⟩ := read_bound hwb (by clear hwb; omega)
  clear hwb
  rw [eN, hw]
  have hpb : p ≤ 13 := by clear hm; omega
  have fin : ∀ (mag : Nat) (place : Int), mag ≠ 0 → -1000 ≤ place + mag.log2 → place + mag.log2 ≤ 59 →
      ∃ r k, double.write (.number false mag place) = r ∧ (double.read r).toInt .zero = some k ∧ 0 ≤ k ∧ k ≤ 9223372036854775807 := by
    intro mag place g0 g1 g2
    obtain ⟨w2, hw2, hwb2⟩ := nearest_bound (mag := mag) (place := place) g0 g1 (by omega)
    obtain ⟨m3, p3, hr3, hm3, hp3, hp3'⟩ := read_bound hwb2 (by clear hwb2; omega)
    clear hwb2
    have hp9 : p3 ≤ 9 := by omega
    refine ⟨w2, _, hw2, by rw [hr3]; rfl, ?_⟩
    have hcut : Toward.zero.cut false (m3 <<< p3.toNat) (-p3).toNat ≤ m3 <<< p3.toNat := by
      unfold Toward.cut
      simp only [Bool.toNat_false, Nat.add_zero]
      exact Nat.div_le_self _ _
    have hsh : m3 <<< p3.toNat ≤ m3 * 512 := by
      rw [Nat.shiftLeft_eq]
      refine Nat.mul_le_mul_left _ ?_
      calc 2 ^ p3.toNat ≤ 2 ^ 9 := Nat.pow_le_pow_right (by omega) (by omega)
        _ = 512 := by decide
    simp only [signed, Bool.false_eq_true, if_false, Nat.shiftLeft_zero]
    omega
  show ∃ r k, (((double.read w).root (double.fractionBits + 2)).map double.write) = some r ∧ (double.read r).toInt .zero = some k ∧ 0 ≤ k ∧ k ≤ 9223372036854775807
  rw [hr]
  simp only [Datum.root]
  by_cases hm0 : m = 0
  · subst hm0
    rw [if_pos rfl]
    exact ⟨0, 0, by simp [Format.write, Format.nearest, Format.word], by decide, by decide, by decide⟩
  · rw [if_neg hm0]
    simp only [Bool.false_eq_true, if_false]
    have e2 : double.fractionBits = 52 := rfl
    rw [e2]
    have hml : m.log2 < 53 := log2_lt_of (by
      have : (2 : Nat) ^ 53 = 9007199254740992 := by decide
      omega) hm0
    generalize hmore : 2 * (52 + 2) - m.log2 + ((p - (2 * (52 + 2) - m.log2 : Nat)) % 2).toNat = more
    have hmb : 56 ≤ more ∧ more ≤ 109 := by omega
    generalize hwh : Datum.rootFrom (m <<< more) ((m <<< more).log2 / 2 + 1) 0 = whole
    have hle : whole * whole ≤ m <<< more := by rw [← hwh]; exact rootFrom_le _ _ _ (by simp)
    have hbound : whole < 2 ^ 81 := by
      rw [Nat.shiftLeft_eq] at hle
      have h2 : m * 2 ^ more < 2 ^ 162 := by
        calc m * 2 ^ more < 2 ^ 53 * 2 ^ more := Nat.mul_lt_mul_of_pos_right (by
              have : (2 : Nat) ^ 53 = 9007199254740992 := by decide
              omega) (Nat.two_pow_pos _)
          _ = 2 ^ (53 + more) := by rw [← Nat.pow_add]
          _ ≤ 2 ^ 162 := Nat.pow_le_pow_right (by omega) (by omega)
      rcases Nat.lt_or_ge whole (2 ^ 81) with h | h
      · exact h
      · have : 2 ^ 81 * 2 ^ 81 ≤ whole * whole := Nat.mul_le_mul h h
        have e : (2 : Nat) ^ 81 * 2 ^ 81 = 2 ^ 162 := by rw [← Nat.pow_add]
        omega
    have hpos : m <<< more ≠ 0 := by
      rw [Nat.shiftLeft_eq]
      exact Nat.mul_ne_zero hm0 (by have := Nat.two_pow_pos more; omega)
    generalize hmag : 2 * whole + (whole * whole != m <<< more).toNat = mag2
    have hmag0 : mag2 ≠ 0 := by
      intro h
      rw [h] at hmag
      have hw0 : whole = 0 := by omega
      subst hw0
      have : (0 * 0 != m <<< more) = true := by simp; exact fun h => hpos h.symm
      rw [this] at hmag
      simp at hmag
    have hmag2 : mag2 < 2 ^ 83 := by
      have hb : (whole * whole != m <<< more).toNat ≤ 1 := Bool.toNat_le _
      have e : (2 : Nat) ^ 83 = 4 * 2 ^ 81 := by decide
      omega
    have hl2 : mag2.log2 < 83 := log2_lt_of hmag2 hmag0
    obtain ⟨r, k, g1, g2, g3, g4⟩ := fin mag2 ((p - more) / 2 - 1) hmag0 (by omega) (by omega)
    refine ⟨r, k, ?_, g2, g3, g4⟩
    simp only [Option.map_some]
    exact congrArg some g1
end Go.AM
