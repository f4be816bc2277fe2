/-
  Texts of the proof, joined by program: PRefD. Own work.
-/
import Derived.Test.YtjmcpijpclfakaaGreatJa
import Derived.Test.YtjmcpijpclfakaaGreatJb
set_option linter.unusedSimpArgs false
set_option linter.unusedVariables false
set_option maxRecDepth 20000
namespace Go.AM
theorem bounds_eqT {sv : V} (hsv : Sv sv) {K : Int → Bd} {x y : Ex} {er : Int} (hch : Ev E 341 [x.v] ⟨.tuple [vi 3, vi er], []⟩) (nl : Bool)
    (heq : Ev E 385 [(Ex.mk 6 0 zeroVa nl [x, y]).v, sv] ⟨.tuple [vi (eqB (x.bd K) (y.bd K)).lo, vi (eqB (x.bd K) (y.bd K)).hi], []⟩) : Bounds sv K (.mk 6 0 zeroVa nl [x, y]) := by
  unfold Bounds
  have e : (Ex.mk 6 0 zeroVa nl [x, y]).bd K = eqB (x.bd K) (y.bd K) := by
    simp [Ex.bd, Ex.bds, headBd, opBd]
  rw [e]
  generalize eqB (x.bd K) (y.bd K) = R at *
  have hm3 : modesOf E 341 = [] := rfl
  have hm2 : modesOf E 385 = [] := rfl
  obtain ⟨a1, b1, c1, d1, e1, f1, L1, hv1, hp1⟩ := x.form3
  obtain ⟨a2, b2, c2, d2, e2, f2, L2, hv2, hp2⟩ := y.form3
  rw [hv1] at hch
  have hp1' : V.arePure [.agg [vi a1, vi b1, vi c1, vi d1, .bool e1, .str f1, L1]] = true := by simp only [V.arePure, hp1, Bool.and_self]
  rw [Ex.v_eq] at heq ⊢
  simp only [List.map_cons, List.map_nil, lv_cons, hv1, hv2, zeroVa] at heq ⊢
  rcases hsv with rfl | ⟨ks, rfl⟩
  all_goals
    refine Ev.of_s' E_342 (X_342 _) rfl ?_
    (conv => whnf); repeat' ((first | refine sAct_fn hm3 hp1' hch rfl ?_ | intro g | refine CallS.mk _ (heq) ?_ | refine st ?_ | (first | refine b1 ?_ ?_ | refine b2 ?_ ?_ | refine Br.mk ?_ ?_) <;> intro hc | exact rfl) <;> conv => whnf)
set_option maxHeartbeats 2000000 in
theorem words_if {sv : V} (hsv : Sv sv) {K : Int → Bd} {x y z : Ex} (hx : Bounds sv K x) (hy : Words sv K y) (hz : Words sv K z) (ly : (y.bd K).ws.length < 100000) (lz : (z.bd K).ws.length < 100000) (hyt : (y.bd K).text = true) (nl : Bool) : Words sv K (.mk 13 0 zeroVa nl [x, y, z]) := by
  unfold Words Bounds at *
  have e : (Ex.mk 13 0 zeroVa nl [x, y, z]).bd K = if (x.bd K).lo = 1 then y.bd K else if (x.bd K).hi = 0 then z.bd K else if ((y.bd K).some && (z.bd K).some) = true then ⟨0, 0, false, union (y.bd K).ws (z.bd K).ws, true, true⟩ else ⟨0, 0, false, [], false, true⟩ := by
    simp [Ex.bd, Ex.bds, headBd, either, hyt]
  rw [e]
  have hm2 : modesOf E 342 = [] := rfl
  have hm3 : modesOf E 388 = [] := rfl
  obtain ⟨v2, hy, r2⟩ := hy
  obtain ⟨v3, hz, r3⟩ := hz
  obtain ⟨a1, b1, c1, d1, e1, f1, L1, hv1, hp1⟩ := x.form3
  obtain ⟨a2, b2, c2, d2, e2, f2, L2, hv2, hp2⟩ := y.form3
  obtain ⟨a3, b3, c3, d3, e3, f3, L3, hv3, hp3⟩ := z.form3
  rw [hv1] at hx
  rw [hv2] at hy
  rw [hv3] at hz
  generalize x.bd K = bx at *
  generalize y.bd K = by1 at *
  generalize z.bd K = bz at *
  obtain ⟨lo2, hi2, nl2, ws2, so2, tx2⟩ := by1
  obtain ⟨lo3, hi3, nl3, ws3, so3, tx3⟩ := bz
  dsimp only at ly lz r2 r3 hyt
  have i2 := fun r k => r2.imp r k
  have i3 := fun r k => r3.imp r k
  clear r2 r3 e
  rw [Ex.v_eq]
  simp only [List.map_cons, List.map_nil, lv_cons, hv1, hv2, hv3, zeroVa]
  by_cases q1 : bx.lo = 1
  · rw [if_pos q1]
    refine ⟨_, ?_, .inr rfl⟩
    rcases hsv with rfl | ⟨ks, rfl⟩
    all_goals
      refine Ev.of_s' E_388 (X_388 _) rfl ?_
      (conv => whnf); repeat' ((first | refine sAct_fn hm2 (apure2 hp1 rfl) hx rfl ?_ | refine sAct_fnI hm3 (apure2 hp2 rfl) hy i2 ?_ | intro g | refine st ?_ | (first | refine b1 ?_ ?_ | refine b2 ?_ ?_ | refine Br.mk ?_ ?_) <;> intro hc | exact rfl) <;> conv => whnf)
  rw [if_neg q1]
  by_cases q2 : bx.hi = 0
  · rw [if_pos q2]
    refine ⟨_, ?_, .inr rfl⟩
    rcases hsv with rfl | ⟨ks, rfl⟩
    all_goals
      refine Ev.of_s' E_388 (X_388 _) rfl ?_
      (conv => whnf); repeat' ((first | refine sAct_fn hm2 (apure2 hp1 rfl) hx rfl ?_ | refine sAct_fnI hm3 (apure2 hp3 rfl) hz i3 ?_ | intro g | refine st ?_ | (first | refine b1 ?_ ?_ | refine b2 ?_ ?_ | refine Br.mk ?_ ?_) <;> intro hc | exact rfl) <;> conv => whnf)
  rw [if_neg q2]
  refine ⟨_, ?_, .inl rfl⟩
  cases hso : (so2 && so3) with
  | false =>
    simp only [hso, Bool.false_eq_true, if_false]
    have h0 : so2 = false ∨ (so2 = true ∧ so3 = false) := by cases so2 <;> simp_all
    rcases hsv with rfl | ⟨ks, rfl⟩ <;> rcases h0 with rfl | ⟨rfl, rfl⟩
    all_goals
      refine Ev.of_s' E_388 (X_388 _) rfl ?_
      (conv => whnf); repeat' ((first | refine sAct_fn hm2 (apure2 hp1 rfl) hx rfl ?_ | refine sAct_fnI hm3 (apure2 hp2 rfl) hy i2 ?_ | refine sAct_fnI hm3 (apure2 hp3 rfl) hz i3 ?_ | intro g | refine st ?_ | (first | refine b1 ?_ ?_ | refine b2 ?_ ?_ | refine Br.mk ?_ ?_) <;> intro hc | exact rfl) <;> conv => whnf)
  | true =>
    simp only [hso, if_true]
    simp only [Bool.and_eq_true] at hso
    obtain ⟨rfl, rfl⟩ := hso
    have lm2 : (ws2.map V.str).length = ws2.length := List.length_map ..
    have lm3 : (ws3.map V.str).length = ws3.length := List.length_map ..
    rcases hsv with rfl | ⟨ks, rfl⟩
    all_goals
      refine Ev.of_s' E_388 (X_388 _) rfl ?_
      (conv => whnf); repeat' ((first | refine sAct_fn hm2 (apure2 hp1 rfl) hx rfl ?_ | refine sAct_fnI hm3 (apure2 hp2 rfl) hy i2 ?_ | refine sAct_fnI hm3 (apure2 hp3 rfl) hz i3 ?_ | intro g | refine st ?_ | (first | refine b1 ?_ ?_ | refine b2 ?_ ?_ | refine Br.mk ?_ ?_) <;> intro hc | exact rfl) <;> conv => whnf)
      refine LoopS.by (fun ((i, L, g9) : Nat × List Str × Nat) => ⟨[(10, .lit 1 (ws3.map V.str)), (12, .sl 209 g9 0 L.length), (13, vnat i)], [(209, ⟨g9, 1, true, false, some (L.map V.str)⟩)]⟩)
        (fun (i, L, g9) => i ≤ ws3.length ∧ L = union ws2 (ws3.take i)) (fun (i, _, _) => ws3.length - i) (0, ws2, g) (by (refine ⟨?_, ?_⟩ <;> repeat' (first | exact True.intro | refine ai ?_ | refine And.intro ?_ ?_))) ⟨by simp, rfl⟩ ?_
      rintro ⟨i, L, g9⟩ ⟨hi, hL⟩
      try dsimp only at hi hL
      have hll : L.length < 1000000 := by
        have h1 := union_len ws2 (ws3.take i)
        rw [← hL] at h1
        have h2 : (ws3.take i).length ≤ ws3.length := by simp; omega
        omega
      have lmL : (L.map V.str).length = L.length := List.length_map ..
      by_cases hlt : i < ws3.length
      · have hxx : ws3[i]? = some ws3[i] := get_lt hlt
        generalize ws3[i] = s at hxx
        have hc := has_ev (l := L) (sv := .lit 1 (L.map V.str)) (.inl rfl) s (by omega)
        have hU := union_take (a := ws2) hxx
        rw [← hL] at hU
        rw [hasS] at hc
        by_cases hm : s ∈ L
        · rw [decide_eq_true hm] at hc
          rw [if_pos hm] at hU
          (conv => whnf); repeat' ((first | intro g | refine Wit.mk _ (map_getE hxx rfl rfl) ?_ | refine CallS.mk _ (hc) ?_ | refine st ?_ | (first | refine b1 ?_ ?_ | refine b2 ?_ ?_ | refine Br.mk ?_ ?_) <;> intro hc | exact rfl) <;> conv => whnf)
          exact NxtS.mk (i + 1, L, g9) (by first | omega | (dsimp only; omega)) ⟨by omega, hU.symm⟩ (by (refine ⟨?_, ?_⟩ <;> repeat' (first | exact True.intro | refine ai ?_ | refine And.intro ?_ ?_)))
        · rw [decide_eq_false hm] at hc
          rw [if_neg hm] at hU
          (conv => whnf); repeat' ((first | intro g | refine Wit.mk _ (map_getE hxx rfl rfl) ?_ | refine CallS.mk _ (hc) ?_ | refine st ?_ | (first | refine b1 ?_ ?_ | refine b2 ?_ ?_ | refine Br.mk ?_ ?_) <;> intro hc | exact rfl) <;> conv => whnf)
          exact NxtS.mk (i + 1, L ++ [s], g) (by first | omega | (dsimp only; omega)) ⟨by omega, hU.symm⟩ (by (refine ⟨?_, ?_⟩ <;> repeat' (first | exact True.intro | refine ai ?_ | refine And.intro ?_ ?_)))
      · have hi2 : i = ws3.length := by omega
        subst hi2
        rw [List.take_length] at hL
        subst hL
        (conv => whnf); repeat' ((first | intro g | refine st ?_ | (first | refine b1 ?_ ?_ | refine b2 ?_ ?_ | refine Br.mk ?_ ?_) <;> intro hc | exact rfl) <;> conv => whnf)
theorem ref_ev {l : List Kno} {sv : V} (hl : KFit l) (hs : IsS 4 (l.map Kno.v) sv) : ∀ (k : Nat) (e : Ex), e.size ≤ k → k ≤ 60 → e.Fit → e.typ ≠ 0 → (e.typ ≠ 3 → Bounds sv (factB l) e) ∧ (e.typ = 3 → Words sv (factB l) e)
  | 0, e, h, _, _, _ => by have := e.size_pos; omega
  | k + 1, .mk op var val nl l', h, hk, hf, ht => by
    have hsv := hs.sv
    have hK := factOk hl
    have hc := typ_cases ht
    have hsz : (Ex.mk op var val nl l').size = 1 + Ex.sizes l' := by simp only [Ex.size]
    rcases hc with ⟨rfl, rfl, rfl, hr, e⟩ | ⟨rfl, rfl, rfl, hv, e⟩ | ⟨x, rfl, rfl, rfl, rfl, hx, e⟩ | ⟨x, y, ho, rfl, rfl, rfl, hx, hy, e, h6, _⟩ | ⟨x, y, z, rfl, rfl, rfl, rfl, hx, hy, hz, e⟩
    · rw [e]
      refine ⟨fun h3 => bounds_const hsv _ hr h3 nl, fun h3 => ?_⟩
      obtain ⟨t, n, b, s⟩ := val
      dsimp only at h3
      subst h3
      exact words_const hsv _ n b s nl
    · rw [e]
      exact ⟨fun h3 => bounds_var hl hs var h3 nl, fun h3 => words_var hl hs var h3 nl⟩
    · have sx : Ex.sizes [x] = x.size := by simp [Ex.sizes]
      have ix := ref_ev hl hs k x (by omega) (by omega) (hf.mem x (by simp)) (by omega)
      rw [e]
      exact ⟨fun _ => bounds_not hsv (ix.1 (by omega)) nl, fun h3 => by omega⟩
    · have sx : Ex.sizes [x, y] = x.size + y.size := by simp [Ex.sizes]
      have ix := ref_ev hl hs k x (by omega) (by omega) (hf.mem x (by simp)) hx
      have iy := ref_ev hl hs k y (by omega) (by omega) (hf.mem y (by simp)) hy
      have ox := bd_ok hK _ x (Nat.le_refl _) hx
      have oy := bd_ok hK _ y (Nat.le_refl _) hy
      have l1 := ox.len
      have l2 := oy.len
      refine ⟨fun _ => ?_, fun h3 => absurd h3 e⟩
      have hch := rcheck_ev x (by omega) (hf.mem x (by simp))
      have hty : x.ty = x.typ := by simp [Ex.ty]; omega
      rw [hty] at hch
      by_cases h6' : op = 6
      · subst h6'
        have hxy := (h6 rfl).1
        by_cases h3 : x.typ = 3
        · rw [h3] at hch
          exact bounds_eqT hsv hch nl (equal_ev hsv (ix.2 h3) (iy.2 (by omega)) (by omega) (by omega) (by rw [ox.text, h3]; rfl) nl)
        · exact bounds_eqN hsv (ix.1 h3) (iy.1 (by omega)) hch h3 (by rw [ox.text]; simp [h3]) nl
      · rename_i hrest
        have hx3 : x.typ ≠ 3 := by omega
        have hy3 : y.typ ≠ 3 := by omega
        exact bounds_op hsv ⟨ho, h6'⟩ (ix.1 hx3) (iy.1 hy3) nl
    · have sx : Ex.sizes [x, y, z] = x.size + (y.size + z.size) := by simp [Ex.sizes]
      have ix := ref_ev hl hs k x (by omega) (by omega) (hf.mem x (by simp)) (by omega)
      have iy := ref_ev hl hs k y (by omega) (by omega) (hf.mem y (by simp)) hy
      have iz := ref_ev hl hs k z (by omega) (by omega) (hf.mem z (by simp)) (by omega)
      have oy := bd_ok hK _ y (Nat.le_refl _) hy
      have oz := bd_ok hK _ z (Nat.le_refl _) (by omega)
      have l1 := oy.len
      have l2 := oz.len
      rw [e]
      refine ⟨fun h3 => bounds_if hsv (ix.1 (by omega)) (iy.1 h3) (iz.1 (by omega)) (by rw [oy.text]; simp [h3]) nl, fun h3 => ?_⟩
      exact words_if hsv (ix.1 (by omega)) (iy.2 h3) (iz.2 (by omega)) (by omega) (by omega) (by rw [oy.text, h3]; rfl) nl
end Go.AM
