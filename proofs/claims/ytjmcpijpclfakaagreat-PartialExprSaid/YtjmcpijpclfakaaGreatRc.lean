/-
  Texts of the proof, joined by program: PRound. Own work.
-/
import Derived.Test.YtjmcpijpclfakaaGreatPa
import Derived.Test.YtjmcpijpclfakaaGreatQa
import Derived.Test.YtjmcpijpclfakaaGreatKa
import Derived.Test.YtjmcpijpclfakaaGreatRa
import Derived.Test.YtjmcpijpclfakaaGreatRd
set_option linter.unusedSimpArgs false
set_option linter.unusedVariables false
set_option maxRecDepth 20000
namespace Go.AM
theorem kfit_of {ks : List Kno} (h : ks.length ≤ 9) (hk : ∀ k ∈ ks, KSmall k) : KFit ks :=
  ⟨by omega, fun k hkk => by have := (hk k hkk).1; omega, fun k hkk s hs => (hk k hkk).2 s hs⟩
theorem round_ev {ks : List Kno} {sv : V} (hk : KFit ks) (hs : IsS 4 (ks.map Kno.v) sv) (x : Envi) (e : Ex) (he : e.size < 1000000) (hf : e.Fit) :
    ∃ (lo hi : Int) (b f : Bool) (a8 b8 c8 d8 : Int) (e8 : Bool) (f8 : Str) (L8 r : V), (L8 = .nils ∨ ∃ us, L8 = .lit 7 us) ∧ Ev E 317 [e.v, sv] ⟨.tuple [vi lo, vi hi, .bool b], []⟩ ∧ Ev E 318 [e.v, sv] ⟨.tuple [vi lo, vi hi, .bool b], []⟩ ∧
      Ev E 320 [e.v, sv] ⟨.agg [vi a8, vi b8, vi c8, vi d8, .bool e8, .str f8, L8], []⟩ ∧ Ev E 321 [e.v, sv] ⟨r, []⟩ ∧ (∀ rr k, importRes2 false rr [] r k = k (.agg [vi a8, vi b8, vi c8, vi d8, .bool e8, .str f8, L8])) ∧ Ev E 319 [.agg [vi a8, vi b8, vi c8, vi d8, .bool e8, .str f8, L8], .agg [vi a8, vi b8, vi c8, vi d8, .bool e8, .str f8, L8]] ⟨.bool true, []⟩ ∧
      Ev E 322 [x.v, sv] ⟨.bool f, []⟩ ∧ Ev E 323 [x.v, sv] ⟨.bool f, []⟩ := by
  obtain ⟨r, h1, h2⟩ := rexpr_ev hk hs e he hf
  have hp := pexpr_ev hk hs e he hf
  have hr1 := prange_ev hk hs e he hf
  have hr2 := rrange_ev hk hs e he hf
  have hf1 := pfits_ev x (by have := hk.len; omega) hk.tx hs
  have hf2 := rfits_ev x (by have := hk.len; omega) hk.tx hs
  have hsz : (e.res (factB ks)).size < 1000000 := by
    unfold Ex.res
    split
    · exact Nat.lt_of_le_of_lt (sim_size _ e) he
    · rw [Ex.norm_size]; exact he
  have hsame := same_ev _ (e.res (factB ks)) (Nat.le_refl _) hsz
  have himp := fun rr k => h2.imp rr k
  obtain ⟨a8, b8, c8, d8, e8, f8, L8, hv8, hL8⟩ := (e.res (factB ks)).form
  rw [hv8] at hp himp hsame
  by_cases h : e.err = 0 ∧ e.typ ≠ 3
  · have hR : e.rng (factB ks) = .tuple [vi (e.bd (factB ks)).lo, vi (e.bd (factB ks)).hi, .bool true] := by simp [Ex.rng, h]
    rw [hR] at hr1 hr2
    exact ⟨_, _, _, _, _, _, _, _, _, _, _, r, hL8, hr1, hr2, hp, h1, himp, hsame, hf1, hf2⟩
  · have hR : e.rng (factB ks) = .tuple [vi 0, vi 0, .bool false] := by unfold Ex.rng; rw [if_neg h]
    rw [hR] at hr1 hr2
    exact ⟨_, _, _, _, _, _, _, _, _, _, _, r, hL8, hr1, hr2, hp, h1, himp, hsame, hf1, hf2⟩
theorem rounds_ev {ks1 ks2 : List Kno} (K1 : KFit ks1) (K2 : KFit ks2) (x : Envi) : ∀ j : Nat, j < 3 → ∃ sv, (∀ n : Int, n = (j : Int) → [V.lit 4 (ks1.map Kno.v), .lit 4 (ks2.map Kno.v), .nils][n.toNat]? = some sv) ∧ (sv = .nils ∨ ∃ W, sv = .lit 4 W) ∧ ∀ e : Ex, e.size < 1000000 → e.Fit →
    ∃ (lo hi : Int) (b f : Bool) (a8 b8 c8 d8 : Int) (e8 : Bool) (f8 : Str) (L8 r : V), (L8 = .nils ∨ ∃ us, L8 = .lit 7 us) ∧ Ev E 317 [e.v, sv] ⟨.tuple [vi lo, vi hi, .bool b], []⟩ ∧ Ev E 318 [e.v, sv] ⟨.tuple [vi lo, vi hi, .bool b], []⟩ ∧
      Ev E 320 [e.v, sv] ⟨.agg [vi a8, vi b8, vi c8, vi d8, .bool e8, .str f8, L8], []⟩ ∧ Ev E 321 [e.v, sv] ⟨r, []⟩ ∧ (∀ rr k, importRes2 false rr [] r k = k (.agg [vi a8, vi b8, vi c8, vi d8, .bool e8, .str f8, L8])) ∧ Ev E 319 [.agg [vi a8, vi b8, vi c8, vi d8, .bool e8, .str f8, L8], .agg [vi a8, vi b8, vi c8, vi d8, .bool e8, .str f8, L8]] ⟨.bool true, []⟩ ∧
      Ev E 322 [x.v, sv] ⟨.bool f, []⟩ ∧ Ev E 323 [x.v, sv] ⟨.bool f, []⟩ := by
  have K3 : KFit ([] : List Kno) := ⟨by simp, by simp, by simp⟩
  intro j hj
  have hj2 : j = 0 ∨ j = 1 ∨ j = 2 := by omega
  rcases hj2 with rfl | rfl | rfl
  · exact ⟨_, fun n hn => by subst hn; rfl, .inr ⟨_, rfl⟩, fun e he hf => round_ev K1 (.inl rfl) x e he hf⟩
  · exact ⟨_, fun n hn => by subst hn; rfl, .inr ⟨_, rfl⟩, fun e he hf => round_ev K2 (.inl rfl) x e he hf⟩
  · exact ⟨_, fun n hn => by subst hn; rfl, .inl rfl, fun e he hf => round_ev (sv := .nils) K3 (.inr ⟨rfl, rfl⟩) x e he hf⟩
end Go.AM
