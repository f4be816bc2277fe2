/-
  hachurelaw21.PartialSame: whatever the numbers and whatever is known: it returns true; the arguments read as before. Conditions: none. Own work.
-/
import Derived.Test.YtjmcpijpclfakaaTc
import Derived.Test.YtjmcpijpclfakaaTd
import Derived.Test.YtjmcpijpclfakaaTa
import Derived.Test.YtjmcpijpclfakaaTb
import Derived.Test.YtjmcpijpclfakaaTe
import Derived.Test.YtjmcpijpclfakaaTf
import Derived.Test.YtjmcpijpclfakaaRb
import Derived.Test.YtjmcpijpclfakaaSane
import Derived.Test.YtjmcpijpclfakaaPa
import Derived.Test.YtjmcpijpclfakaaKa
import Derived.Test.YtjmcpijpclfakaaSeat
import Derived.Test.YtjmcpijpclfakaaOpsC
import Derived.WalkKit
import Derived.ProofKit
import Derived.OpenShut
import Derived.JoinedCond
import Derived.Carry
set_option linter.unusedSimpArgs false
set_option linter.unusedVariables false
set_option maxRecDepth 20000
namespace Go.AM
theorem kfits_of {x : Envi} {ks : List Kno} (h : ks.length ≤ 9) (hk : ∀ k ∈ ks, KFits x k) : KFit ks :=
  ⟨by omega, fun k hkk => by have := (hk k hkk).1.1; omega, fun k hkk s hs => (hk k hkk).1.2 s hs⟩
theorem conE_fit {t : Int} {b : Bd} {c : Ex} (h : conE t b = some c) (hb : BdStr b) : c.Fit := by
  unfold conE at h
  split at h
  · split at h
    · rename_i s hs
      split at h
      · injection h with h
        subst h
        exact .mk _ _ _ _ _ (hb s (by rw [hs]; simp)) (by simp)
      · cases h
    · cases h
  · split at h
    · injection h with h
      subst h
      refine .mk _ _ _ _ _ ?_ (by simp)
      split <;> simp
    · cases h
theorem mem_typ {op var : Int} {val : Va} {nl : Bool} {l : List Ex} (h : (Ex.mk op var val nl l).typ ≠ 0) : ∀ y ∈ l, y.typ ≠ 0 := by
  intro u hu
  rcases typ_cases h with ⟨rfl, rfl, rfl, hr, hT⟩ | ⟨rfl, rfl, rfl, hv, hT⟩ | ⟨y, rfl, rfl, rfl, rfl, hx, hT⟩ | ⟨y, z, ho, rfl, rfl, rfl, hx, hy, hT3, h6, h45, h7, h8⟩ | ⟨y, z, w, rfl, rfl, rfl, rfl, hx, hy, hz, hT⟩
  · simp at hu
  · simp at hu
  · simp at hu; subst hu; omega
  · simp at hu
    rcases hu with rfl | rfl
    · exact hx
    · exact hy
  · simp at hu
    rcases hu with rfl | rfl | rfl
    · omega
    · exact hy
    · omega
theorem sim_fit {ks : List Kno} (hl : KFit ks) : ∀ (k : Nat) (e : Ex), e.size ≤ k → e.typ ≠ 0 → e.Fit → (e.sim (factB ks)).Fit
  | 0, e, hk, _, _ => by have := e.size_pos; omega
  | k + 1, .mk op var val nl l, hk, ht, hf => by
    have ih := sim_fit hl k
    have hm := mem_typ ht
    have hb := bd_str hl _ _ (Nat.le_refl _) hf ht
    simp only [Ex.size] at hk
    have hmem : ∀ s ∈ l.map (Ex.sim (factB ks)), s.Fit := by
      intro s hs
      obtain ⟨y, hy, rfl⟩ := List.mem_map.1 hs
      have := Ex.size_mem hy
      exact ih y (by omega) (hm y hy) (hf.mem y hy)
    rw [Ex.sim_eq]
    cases hc : conE (Ex.mk op var val nl l).typ ((Ex.mk op var val nl l).bd (factB ks)) with
    | some c => exact conE_fit hc hb
    | none =>
      simp only [simHead]
      cases hp : pick op (l.map (Ex.bd (factB ks))) (l.map (Ex.sim (factB ks))) with
      | some s => exact hmem s (pick_mem hp)
      | none => exact .mk _ _ _ _ _ hf.val hmem
theorem partialSame_ev {l env kn : List Int} {raw : List Kno} {more : List (List Int)} (hl : l.length < 9223372036854775808) (henv : env.length < 9223372036854775808) (hkn : kn.length < 9223372036854775808)
    (hmore : more.length < 9223372036854775808) (hm : ∀ m ∈ more, m.length < 9223372036854775808) :
    Ev E 442 [.lit 1 (l.map vi), .agg [.lit 1 (env.map vi), .lit 1 (kn.map vi), .lit 4 (raw.map Kno.v)], .lit 1 (more.map fun m => V.lit 1 (m.map vi))] ⟨.bool true, []⟩ := by
  obtain ⟨x, hxo, hx⟩ := env_ev henv
  obtain ⟨e, q, b, c, w, o, f, ys, hf, hsz, ht, hv, he⟩ := expr_ev hl
  obtain ⟨ks, hk, hks, hab⟩ := about_ev2 x hxo hkn
  have K := kfits_of hk hks
  have hall : ks.all (fitsK x) = true := List.all_eq_true.2 fun k h => (hks k h).2
  have hm' : ∀ m ∈ more, ∃ y : Envi, Ev E 312 [.lit 1 (m.map vi)] ⟨y.v, []⟩ := fun m h => by
    obtain ⟨y, _, h2⟩ := env_ev (hm m h)
    exact ⟨y, h2⟩
  have hBN := fact_bn ks
  have so := sim_ok hBN e.size e (Nat.le_refl _) ht
  have hss := sim_size (factB ks) e
  have hsf := sim_fit K e.size e (Nat.le_refl _) ht hf
  have herr : ∀ u : Ex, u.size ≤ 46 → u.typ ≠ 0 → u.err = 0 := fun u h1 h2 => by
    unfold Ex.err
    rw [if_neg (by omega), if_neg h2]
  have hty : ∀ u : Ex, u.size ≤ 46 → u.ty = u.typ := fun u h1 => by
    unfold Ex.ty
    rw [if_neg (by omega)]
  have hst : (e.sim (factB ks)).typ ≠ 0 := by rw [so.typ]; exact ht
  have e1 := herr e hsz ht
  have e2 := herr (e.sim (factB ks)) (by omega) hst
  have hr1 : e.res (factB ks) = e.sim (factB ks) := by unfold Ex.res; rw [if_pos e1]
  have hr2 : (e.sim (factB ks)).res (factB ks) = e.sim (factB ks) := by unfold Ex.res; rw [if_pos e2, so.idem]
  have h320 := pexpr_ev K (sv := .lit 4 (ks.map Kno.v)) (.inl rfl) e (by omega) hf
  have h320' := pexpr_ev K (sv := .lit 4 (ks.map Kno.v)) (.inl rfl) (e.sim (factB ks)) (by omega) hsf
  rw [hr1] at h320
  rw [hr2] at h320'
  have h338 := pcheck_ev e (by omega) hf
  have h338' := pcheck_ev (e.sim (factB ks)) (by omega) hsf
  rw [e1, hty e hsz] at h338
  rw [e2, hty _ (by omega), so.typ] at h338'
  have h370 := psize_ev e.size e (Nat.le_refl _) (by omega)
  have h370' := psize_ev (e.sim (factB ks)).size (e.sim (factB ks)) (Nat.le_refl _) (by omega)
  have h443 := psame_ev (e.sim (factB ks)).size (e.sim (factB ks)) (Nat.le_refl _) (by omega)
  have hfit := fun y : Envi => pfits_ev (l := ks) (sv := .lit 4 (ks.map Kno.v)) y (by omega) K.tx (.inl rfl)
  have h322 := hfit x
  rw [hall] at h322
  have h317 := prange_ev K (sv := .lit 4 (ks.map Kno.v)) (.inl rfl) e (by omega) hf
  have hval : ∀ y : Envi, ks.all (fitsK y) = true → InB e.typ (e.bd (factB ks)) (e.eval y) ∧ Ev E 348 [e.v, y.v] ⟨.tuple [(e.eval y).v, vi 0], []⟩ ∧ Ev E 348 [(e.sim (factB ks)).v, y.v] ⟨.tuple [(e.eval y).v, vi 0], []⟩ := by
    intro y hg
    have hin := fun v hv => fact_in hg v hv
    refine ⟨eval_in hBN hin e.size e (Nat.le_refl _) ht, evalF_ev y e e1 hf, ?_⟩
    have := evalF_ev y (e.sim (factB ks)) e2 hsf
    rw [so.val y hin] at this
    exact this
  obtain ⟨a2, b2, c2, d2, e2', f2, L2, hv2, hL2⟩ := (e.sim (factB ks)).form
  rw [hv2] at h320 h320' h338' h370' h443 hval
  rw [hv] at h320 h338 h370 h317 hval
  have hT := (bd_bn hBN e.size e (Nat.le_refl _) ht).t
  rcases hT with hT | hT | hT
  · have hR : e.rng (factB ks) = .tuple [vi (e.bd (factB ks)).lo, vi (e.bd (factB ks)).hi, .bool true] := by unfold Ex.rng; rw [if_pos ⟨e1, by omega⟩]
    rw [hR] at h317
    rw [hT] at h338 h338' hval
    rcases hL2 with rfl | ⟨zs, rfl⟩
    · exact law_s1n (zs := []) (fun y => ks.all (fitsK y)) hmore sanity_ev hx hab he h320 h320' h338 h338' h370 h370' hss h443 h322 h317 hfit (fun y hg => by
      obtain ⟨h1, h2, h3⟩ := hval y hg
      obtain ⟨n, hn, r1, r2⟩ := h1.one
      rw [hn] at h2 h3
      exact ⟨n, r1, r2, h2, h3⟩) hm'
    · exact law_s1l (fun y => ks.all (fitsK y)) hmore sanity_ev hx hab he h320 h320' h338 h338' h370 h370' hss h443 h322 h317 hfit (fun y hg => by
      obtain ⟨h1, h2, h3⟩ := hval y hg
      obtain ⟨n, hn, r1, r2⟩ := h1.one
      rw [hn] at h2 h3
      exact ⟨n, r1, r2, h2, h3⟩) hm'
  · have hR : e.rng (factB ks) = .tuple [vi (e.bd (factB ks)).lo, vi (e.bd (factB ks)).hi, .bool true] := by unfold Ex.rng; rw [if_pos ⟨e1, by omega⟩]
    rw [hR] at h317
    rw [hT] at h338 h338' hval
    rcases hL2 with rfl | ⟨zs, rfl⟩
    · exact law_s2n (zs := []) (fun y => ks.all (fitsK y)) hmore sanity_ev hx hab he h320 h320' h338 h338' h370 h370' hss h443 h322 h317 hfit (fun y hg => by
      obtain ⟨h1, h2, h3⟩ := hval y hg
      obtain ⟨n, hn, r1, r2⟩ := h1.two
      rw [hn] at h2 h3
      exact ⟨n, r1, r2, h2, h3⟩) hm'
    · exact law_s2l (fun y => ks.all (fitsK y)) hmore sanity_ev hx hab he h320 h320' h338 h338' h370 h370' hss h443 h322 h317 hfit (fun y hg => by
      obtain ⟨h1, h2, h3⟩ := hval y hg
      obtain ⟨n, hn, r1, r2⟩ := h1.two
      rw [hn] at h2 h3
      exact ⟨n, r1, r2, h2, h3⟩) hm'
  · have hR : e.rng (factB ks) = .tuple [vi 0, vi 0, .bool false] := by unfold Ex.rng; rw [if_neg (by omega)]
    rw [hR] at h317
    rw [hT] at h338 h338' hval
    rcases hL2 with rfl | ⟨zs, rfl⟩
    · exact law_s3n (zs := []) (lo := 0) (hi := 0) (fun y => ks.all (fitsK y)) hmore sanity_ev hx hab he h320 h320' h338 h338' h370 h370' hss h443 h322 h317 hfit (fun y hg => by
      obtain ⟨h1, h2, h3⟩ := hval y hg
      obtain ⟨n, hn, _⟩ := h1.three
      rw [hn] at h2 h3
      exact ⟨n, h2, h3⟩) hm'
    · exact law_s3l (lo := 0) (hi := 0) (fun y => ks.all (fitsK y)) hmore sanity_ev hx hab he h320 h320' h338 h338' h370 h370' hss h443 h322 h317 hfit (fun y hg => by
      obtain ⟨h1, h2, h3⟩ := hval y hg
      obtain ⟨n, hn, _⟩ := h1.three
      rw [hn] at h2 h3
      exact ⟨n, h2, h3⟩) hm'
end Go.AM
namespace Go.AM
open Go.ChangeShapes Go.WideShapes Go.ChangeAt Go.RowKit Go.Proofs Go.Proofs.Ytjmcpijpclfakaa
theorem below_kept {W W' : World} (h : Below W.heap.size W W') (may : MemPlace → Prop) : W.keptBut W' may := by
  have := (World.keptBut_refl W may).2.2
  refine ⟨h.os, h.output, fun i hi => ?_⟩
  rw [h.block i hi]
  exact this i hi
theorem ownPs : ownKnob Try.prog.godebug = none := by kernel_rfl
def SPs : List TypeId := [22, 26, 25, 23, 54, 52, 3, 9]
theorem plainPs : SPs.all (plainT X0.P SPs) = true := by kernel_rfl
theorem laidPs : laidOutB Try.prog = true := by kernel_rfl
theorem cell3 : X0.P.cellsOf 3 = 1 := by kernel_rfl
theorem c9 : X0.P.cellsOf 9 = 1 := by kernel_rfl
theorem c54 : X0.P.cellsOf 54 = 4 := by kernel_rfl
theorem int_of {n : Nat} {us : List V} (h : TV X0.P n 3 us) : ∃ x : Int, us = [vi x] := by
  have u3 : X0.P.underlying 3 = _ := Try.underlying3
  cases n with
  | zero => simp [TV] at h
  | succ n =>
    simp only [TV, u3] at h
    obtain ⟨x, rfl, hw⟩ := h
    exact ⟨x, rfl⟩
theorem str_of {n : Nat} {us : List V} (h : TV X0.P n 9 us) : ∃ x : Str, us = [.str x] ∧ x.length ≤ maxLen := by
  have u9 : X0.P.underlying 9 = _ := Try.underlying9
  cases n with
  | zero => simp [TV] at h
  | succ n =>
    simp only [TV, u9] at h
    obtain ⟨x, rfl, hw⟩ := h
    exact ⟨x, rfl, hw⟩
theorem nil_lit {X : Ctx} {μ : Mu} {sz : Nat} {v : Value} (h : VRel X μ .nils v) : VRel X μ (.lit sz []) v := by
  simp only [VRel] at h ⊢
  obtain ⟨a, rfl⟩ := h
  exact ⟨rfl, rfl, a, 0, [], rfl, Nat.le_refl _, by simp [VRels], .inl trivial⟩
theorem nil_or {X : Ctx} {μ : Mu} {sz : Nat} {a : V} {l : List V} {v : Value} (ha : a = .nils ∧ l = [] ∨ a = .lit sz l) (h : VRel X μ a v) : VRel X μ (.lit sz l) v := by
  rcases ha with ⟨rfl, rfl⟩ | rfl
  · exact nil_lit h
  · exact h
theorem ints_of {n : Nat} {us : List V} (h : TV X0.P n 22 us) : ∃ (l : List Int) (a : V), l.length ≤ maxLen ∧ us = [a] ∧ (a = .nils ∧ l.map vi = [] ∨ a = .lit 1 (l.map vi)) := by
  have u22 : X0.P.underlying 22 = _ := Try.underlying22
  have u3 : X0.P.underlying 3 = _ := Try.underlying3
  cases n with
  | zero => simp [TV] at h
  | succ n =>
    simp only [TV, u22, cell3] at h
    rcases h with rfl | ⟨xs, rfl, hml, hx⟩
    · exact ⟨[], _, by simp, rfl, .inl ⟨rfl, rfl⟩⟩
    · have : ∃ l : List Int, xs = l.map vi := by
        clear u22 hml
        induction xs with
        | nil => exact ⟨[], rfl⟩
        | cons x xs ih =>
          obtain ⟨l, hl⟩ := ih (fun y hy => hx y (by simp [hy]))
          obtain ⟨ws, h1, h2⟩ := hx x (by simp)
          obtain ⟨p, rfl⟩ := int_of h1
          exact ⟨p :: l, by simp [hl, h2, mkEl, u3]⟩
      obtain ⟨l, rfl⟩ := this
      exact ⟨l, _, by simpa using hml, rfl, .inr rfl⟩
theorem strs_of {n : Nat} {us : List V} (h : TV X0.P n 52 us) : ∃ (nt : Bool) (l : List Str), l.length ≤ maxLen ∧ (∀ s ∈ l, s.length ≤ maxLen) ∧ us = [slS nt l] := by
  have u52 : X0.P.underlying 52 = _ := Try.underlying52
  have u9 : X0.P.underlying 9 = _ := Try.underlying9
  cases n with
  | zero => simp [TV] at h
  | succ n =>
    simp only [TV, u52, c9] at h
    rcases h with rfl | ⟨xs, rfl, hml, hx⟩
    · exact ⟨true, [], by simp, by simp, rfl⟩
    · have : ∃ l : List Str, xs = l.map V.str ∧ ∀ s ∈ l, s.length ≤ maxLen := by
        clear u52 hml
        induction xs with
        | nil => exact ⟨[], rfl, by simp⟩
        | cons x xs ih =>
          obtain ⟨l, hl, hl2⟩ := ih (fun y hy => hx y (by simp [hy]))
          obtain ⟨ws, h1, h2⟩ := hx x (by simp)
          obtain ⟨p, rfl, hp⟩ := str_of h1
          refine ⟨p :: l, by simp [hl, h2, mkEl, u9], fun s hs => ?_⟩
          rcases List.mem_cons.1 hs with rfl | hs
          · exact hp
          · exact hl2 s hs
      obtain ⟨l, rfl, hl⟩ := this
      refine ⟨false, l, by simpa using hml, hl, ?_⟩
      cases l <;> rfl
theorem known_of {n : Nat} {us : List V} (h : TV X0.P n 54 us) : ∃ k : Kno, (k.texts.length ≤ maxLen ∧ ∀ s ∈ k.texts, s.length ≤ maxLen) ∧ .agg us = k.v := by
  have u54 : X0.P.underlying 54 = _ := Try.underlying54
  cases n with
  | zero => simp [TV] at h
  | succ n =>
    simp only [TV, u54] at h
    obtain ⟨a, b, rfl, h1, h2, a', b', rfl, h3, h4, a'', b'', rfl, h5, h6, a3, b3, rfl, h7, h8, rfl⟩ := h
    obtain ⟨x, rfl⟩ := int_of h2
    obtain ⟨y, rfl⟩ := int_of h4
    obtain ⟨z, rfl⟩ := int_of h6
    obtain ⟨nt, l, k1, k2, rfl⟩ := strs_of h8
    exact ⟨⟨x, y, z, nt, l⟩, ⟨k1, k2⟩, rfl⟩
theorem knows_of {n : Nat} {us : List V} (h : TV X0.P n 23 us) : ∃ (raw : List Kno) (a : V), raw.length ≤ maxLen ∧ (∀ k ∈ raw, k.texts.length ≤ maxLen ∧ ∀ s ∈ k.texts, s.length ≤ maxLen) ∧
    us = [a] ∧ (a = .nils ∧ raw.map Kno.v = [] ∨ a = .lit 4 (raw.map Kno.v)) := by
  have u23 : X0.P.underlying 23 = _ := Try.underlying23
  have u54 : X0.P.underlying 54 = _ := Try.underlying54
  cases n with
  | zero => simp [TV] at h
  | succ n =>
    simp only [TV, u23, c54] at h
    rcases h with rfl | ⟨xs, rfl, hml, hx⟩
    · exact ⟨[], _, by simp, by simp, rfl, .inl ⟨rfl, rfl⟩⟩
    · have : ∃ l : List Kno, xs = l.map Kno.v ∧ ∀ k ∈ l, k.texts.length ≤ maxLen ∧ ∀ s ∈ k.texts, s.length ≤ maxLen := by
        clear u23 hml
        induction xs with
        | nil => exact ⟨[], rfl, by simp⟩
        | cons x xs ih =>
          obtain ⟨l, hl, hl2⟩ := ih (fun y hy => hx y (by simp [hy]))
          obtain ⟨ws, h1, h2⟩ := hx x (by simp)
          obtain ⟨p, hp, hv⟩ := known_of h1
          have h2' : x = p.v := by rw [← hv, h2]; simp [mkEl, u54]
          refine ⟨p :: l, by simp [hl, h2'], fun s hs => ?_⟩
          rcases List.mem_cons.1 hs with rfl | hs
          · exact hp
          · exact hl2 s hs
      obtain ⟨l, rfl, hl⟩ := this
      exact ⟨l, _, by simpa using hml, hl, rfl, .inr rfl⟩
theorem case_of {n : Nat} {us : List V} (h : TV X0.P n 25 us) : ∃ (env kn : List Int) (raw : List Kno) (a b c : V), us = [a, b, c] ∧ env.length ≤ maxLen ∧ kn.length ≤ maxLen ∧ raw.length ≤ maxLen ∧
    (∀ k ∈ raw, k.texts.length ≤ maxLen ∧ ∀ s ∈ k.texts, s.length ≤ maxLen) ∧
    (a = .nils ∧ env.map vi = [] ∨ a = .lit 1 (env.map vi)) ∧ (b = .nils ∧ kn.map vi = [] ∨ b = .lit 1 (kn.map vi)) ∧ (c = .nils ∧ raw.map Kno.v = [] ∨ c = .lit 4 (raw.map Kno.v)) := by
  have u25 : X0.P.underlying 25 = _ := Try.underlying25
  cases n with
  | zero => simp [TV] at h
  | succ n =>
    simp only [TV, u25] at h
    obtain ⟨a, b, rfl, h1, h2, a', b', rfl, h3, h4, a'', b'', rfl, h5, h6, rfl⟩ := h
    obtain ⟨l1, v1, k1, rfl, e1⟩ := ints_of h2
    obtain ⟨l2, v2, k2, rfl, e2⟩ := ints_of h4
    obtain ⟨l3, v3, k3, k4, rfl, e3⟩ := knows_of h6
    exact ⟨l1, l2, l3, v1, v2, v3, rfl, k1, k2, k3, k4, e1, e2, e3⟩
theorem lists_of {n : Nat} {us : List V} (h : TV X0.P n 26 us) : ∃ ls : List (List Int), ls.length ≤ maxLen ∧ (∀ l ∈ ls, l.length ≤ maxLen) ∧
    ∀ (X : Ctx) (μ : Mu) (v : Value), VRels X μ us [v] → VRel X μ (.lit 1 (ls.map fun m => V.lit 1 (m.map vi))) v := by
  have u26 : X0.P.underlying 26 = _ := Try.underlying26
  have u22 : X0.P.underlying 22 = _ := Try.underlying22
  have c22 : X0.P.cellsOf 22 = 1 := by kernel_rfl
  cases n with
  | zero => simp [TV] at h
  | succ n =>
    simp only [TV, u26, c22] at h
    rcases h with rfl | ⟨xs, rfl, hml, hx⟩
    · exact ⟨[], by simp, by simp, fun X μ v hv => by
        simp only [VRels] at hv
        exact nil_lit hv.1⟩
    · have : ∃ ls : List (List Int), ls.length = xs.length ∧ (∀ l ∈ ls, l.length ≤ maxLen) ∧ V.arePure xs = true ∧ xs.all V.lies = true ∧
          ∀ (X : Ctx) (μ : Mu) (vs : List Value), VRels X μ xs vs → VRels X μ (ls.map fun m => V.lit 1 (m.map vi)) vs := by
        clear u26 hml
        induction xs with
        | nil => exact ⟨[], rfl, by simp, rfl, rfl, fun X μ vs h => h⟩
        | cons x xs ih =>
          obtain ⟨ls, e1, e2, e3, e4, e5⟩ := ih (fun y hy => hx y (by simp [hy]))
          obtain ⟨ws, h1, h2⟩ := hx x (by simp)
          obtain ⟨l, a, k1, rfl, k2⟩ := ints_of h1
          have hxa : x = a := by rw [h2]; simp [mkEl, u22]
          subst hxa
          refine ⟨l :: ls, by simp [e1], fun y hy => ?_, ?_, ?_, fun X μ vs hv => ?_⟩
          · rcases List.mem_cons.1 hy with rfl | hy
            · exact k1
            · exact e2 y hy
          · rcases k2 with ⟨rfl, _⟩ | rfl
            · simpa [V.arePure, V.isPure] using e3
            · simpa [V.arePure, V.isPure] using e3
          · rcases k2 with ⟨rfl, _⟩ | rfl
            · simpa [V.lies, V.isCell] using e4
            · simpa [V.lies, V.isCell] using e4
          · cases vs with
            | nil => simp [VRels] at hv
            | cons v vs =>
              simp only [VRels, List.map_cons] at hv ⊢
              exact ⟨nil_or k2 hv.1, e5 X μ vs hv.2⟩
      obtain ⟨ls, e1, e2, e3, e4, e5⟩ := this
      refine ⟨ls, by omega, e2, fun X μ v hv => ?_⟩
      simp only [VRels, VRel] at hv
      obtain ⟨⟨h1, h2, a, cap, vs, rfl, h3, h4, h5⟩, _⟩ := hv
      simp only [VRel, List.length_map]
      refine ⟨AM.pures (fun _ => rfl) _, by simp [List.all_eq_true, V.lies, V.isCell], a, cap, vs, by rw [e1], by omega, e5 X μ vs h4, ?_⟩
      rcases h5 with h5 | h5
      · left
        have : ls = [] := by
          have : ls.length = 0 := by rw [e1, h5]; rfl
          simpa using this
        rw [this]; rfl
      · exact .inr h5
theorem okWide_struct' {P : Program} {w : World} {r : Reach} {base : Nat} {t : TypeId} {v : Value} {fs : Array Field} (ht : P.underlying t = some (.struct fs)) (h : Value.okWide P w r base t v) : ∃ cs, v = .agg cs := by
  simp only [Value.okWide, ht] at h
  obtain ⟨cs, h1, _⟩ := h
  exact ⟨cs, h1⟩
set_option maxRecDepth 100000 in
theorem same_contract (H : Type) (enc : TypeId × Value → H) (W : World) (base : Nat) (args : Array Value) (ds gs : List (DataW H)) (before : List MemPlace)
    (hval : ∀ (j : Nat) t v, Try.f3.params[j]? = some t → args[j]? = some v → Value.okWide Try.prog W .any base t v)
    (hW : DataW.Whole enc Try.prog Try.f3.params.toList Rows.partialSameSpec.vars false W args.toList ds gs before) :
    Calls Try.prog 3 args W fun e W' => ∃ v, e = .returned v ∧ Rows.partialSameSpec.post enc Try.prog Try.f3 false true false false W args v W' := by
  have hW' := hW
  obtain ⟨p, q, hA0, hV, rfl, hfz, hnd⟩ := hW
  have hA : DataW.TrodAll enc Try.prog W 0 (fun _ => true) true Try.f3.params.toList args.toList ds p := hA0
  rw [Try.params3] at hA hval
  obtain ⟨v0, vs0, d0, ds0, p0, q0, hargs, rfl, rfl, h0, r0⟩ := trodAll_cons hA
  obtain ⟨v1, vs1, d1, ds1, p1, q1, rfl, rfl, rfl, h1, r1⟩ := trodAll_cons r0
  obtain ⟨v2, vs2, d2, ds2, p2, q2, rfl, rfl, rfl, h2, r2⟩ := trodAll_cons r1
  obtain ⟨rfl, rfl, rfl⟩ := trodAll_nil r2
  obtain rfl : args = #[v0, v1, v2] := by cases args; simp_all
  obtain ⟨rfl, rfl⟩ := trodVars_none hV
  clear hA0
  have hW2 := hW'
  simp only [List.append_nil] at hW'
  obtain ⟨a, len, cap, rfl⟩ := okWide_slice Try.underlying22 (hval 0 22 v0 rfl rfl)
  obtain ⟨c1, rfl⟩ := okWide_struct' Try.underlying25 (hval 1 25 v1 rfl rfl)
  obtain ⟨a2, len2, cap2, rfl⟩ := okWide_slice Try.underlying26 (hval 2 26 v2 rfl rfl)
  have h0k := h0; have h1k := h1; have h2k := h2
  obtain ⟨fuel0, hf0⟩ := h0
  obtain ⟨us0, g00, g01, g02, g03⟩ := trod_good (X := X0) plainPs fuel0 22 _ _ (by decide) hf0
  obtain ⟨l, a0, hl1, rfl, hl3⟩ := ints_of g00
  obtain ⟨fuel1, hf1⟩ := h1
  obtain ⟨us1, g10, g11, g12, g13⟩ := trod_good (X := X0) plainPs fuel1 25 _ _ (by decide) hf1
  obtain ⟨env, kn, raw, aE, aK, aR, rfl, hle, hlk, hlr, hlr2, hE3, hK3, hR3⟩ := case_of g10
  obtain ⟨fuel2, hf2⟩ := h2
  obtain ⟨us2, g20, g21, g22, g23⟩ := trod_good (X := X0) plainPs fuel2 26 _ _ (by decide) hf2
  obtain ⟨more, hm1, hm2, hm3⟩ := lists_of g20
  have hlt0 : ∀ x ∈ p0, x.block < W.heap.size := fun x hx => hW'.lt x (by simp [hx])
  have hlt1 : ∀ x ∈ p1, x.block < W.heap.size := fun x hx => hW'.lt x (by simp [hx])
  have hlt2 : ∀ x ∈ p2, x.block < W.heap.size := fun x hx => hW'.lt x (by simp [hx])
  have hm : maxLen < 9223372036854775808 := by decide
  have hag : ∀ {φ : Nat → Row} {cs : List V} {c : Array Value}, cs.all V.isCell = true → VRels (free X0) (still W φ) cs (Value.agg c).cells.toList → VRel (free X0) (still W φ) (.agg cs) (.agg c) := fun h1 h2 => by
    simp only [VRel]
    exact ⟨h1, _, rfl, h2⟩
  refine (law_calls (F := 3) envOk rfl Try.func3 (by kernel_rfl) rfl (partialSame_ev (l := l) (env := env) (kn := kn) (raw := raw) (more := more) (by omega) (by omega) (by omega) (by omega) (fun m hm => by have := hm2 m hm; omega))
    (by simp only [V.arePure, V.isPure, AM.pures (f := vi) (fun _ => rfl), AM.pures Kno.pure, Bool.and_self]) (vals := [.slice a len cap, .agg c1, .slice a2 len2 cap2])
    (fun φ => by
      simp only [VRels]
      have e0 := g03 φ
      have b0 : (Value.slice a len cap).cells.toList = [Value.slice a len cap] := rfl
      rw [b0] at e0
      refine ⟨nil_or hl3 e0.1, hag rfl ?_, hm3 _ _ _ (g23 φ), trivial⟩
      have e2 := g13 φ
      generalize (Value.agg c1).cells.toList = vs at e2
      match vs, e2 with
      | [w0, w1, w2], ⟨j0, j1, j2, _⟩ => exact ⟨nil_or hE3 j0, nil_or hK3 j1, nil_or hR3 j2, trivial⟩)).mono fun e W' ⟨he, hb, hz⟩ => ?_
  subst he
  refine ⟨_, rfl, post_of_same (pa := p0 ++ (p1 ++ (p2 ++ []))) (pv := []) hW2 (fun _ _ _ => (trodAll_cons_mk (shut_bool Try.underlying4 _) trodAll_mk0))
    (fun sp hsp => (trodAll_cons_mk (WideElems.Trod_stays laidPs (by kernel_rfl) (of_decide_eq_true (by kernel_rfl)) h0k (fun x hx => hb.same (hlt0 x hx)) (fun x hx => hsp x (by simp [hx])))
      (trodAll_cons_mk (WideElems.Trod_stays laidPs (by kernel_rfl) (of_decide_eq_true (by kernel_rfl)) h1k (fun x hx => hb.same (hlt1 x hx)) (fun x hx => hsp x (by simp [hx])))
      (trodAll_cons_mk (WideElems.Trod_stays laidPs (by kernel_rfl) (of_decide_eq_true (by kernel_rfl)) h2k (fun x hx => hb.same (hlt2 x hx)) (fun x hx => hsp x (by simp [hx]))) trodAll_mk0)))) (fun _ _ => rfl) (by simp)
    (below_kept hb _) hz (ok_one (by kernel_rfl) rfl (okWide_bool_mk Try.underlying4 _))⟩
set_option maxRecDepth 100000 in
theorem same_lifted (os : Os) (started : os.Started) (H : Type) (enc : TypeId × Value → H) :
    ReturnsInHanded {} Try.checked os 3 .any (Rows.partialSameSpec.pre6 enc Try.prog Try.f3 Rows.partialSameRow.domain false) (Rows.partialSameSpec.post enc Try.prog Try.f3 false true false false) := by
  refine returnsInHanded_of_change (C := Try.checked) ownPs started (by kernel_rfl) Try.func3
    (ChangeSpec.witness6 (enc := enc) (C := Try.checked) false ⟨#[], #[.slice none 0 0, .agg #[.slice none 0 0, .slice none 0 0, .slice none 0 0], .slice none 0 0], []⟩ 8 (by kernel_rfl) (by kernel_rfl) (by kernel_rfl) (by kernel_rfl)) ?_
  intro W base args ds gs before hval hW _ _
  exact same_contract H enc W base args ds gs before hval hW
theorem same_over : Rows.partialSameRow.holds Try.pinned (OpenSpec.ofChange Rows.partialSameSpec) :=
  OpenClaim.holds_of_wide 3 Try.f3 rfl rfl rfl rfl rfl rfl rfl ⟨rfl, rfl, rfl, rfl, rfl⟩ rfl rfl rfl rfl rfl (by kernel_rfl) Try.func3 (by kernel_rfl)
    (of_decide_eq_true (by kernel_rfl)) (by unfold Func.isWrapper; first | (rw [if_pos (by decide +kernel)]; kernel_rfl) | (rw [if_neg (by decide +kernel)]; exact ⟨rfl, rfl⟩))
    (fun os started H enc _ => same_lifted os started H enc)
end Go.AM
namespace Go.Proofs.Ytjmcpijpclfakaa
theorem partialSame_holds : Rows.PartialSameSaid := Go.AM.same_over
#print axioms partialSame_holds
end Go.Proofs.Ytjmcpijpclfakaa
