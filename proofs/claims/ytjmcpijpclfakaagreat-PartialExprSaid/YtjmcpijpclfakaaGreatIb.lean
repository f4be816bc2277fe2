/-
  Texts of the proof, joined by program: POfC. Own work.
-/
import Derived.Test.YtjmcpijpclfakaaGreatIa
import Derived.Test.YtjmcpijpclfakaaGreatHc
set_option linter.unusedSimpArgs false
set_option linter.unusedVariables false
set_option maxRecDepth 20000
namespace Go.AM
theorem of_const {K : Int → Bd} (val : Va) (nl : Bool) (hr : val.right = true) : Ev E 340 [.mlit (esOf K 9), (Ex.mk 1 0 val nl []).v] ⟨(constBd val).v, []⟩ := by
  have hmp := esOf_mp K 9
  have ht := right_t hr
  obtain ⟨t, n, b, s⟩ := val
  dsimp only at ht
  rw [Ex.v_eq]
  generalize esOf K 9 = es at *
  rcases ht with rfl | rfl | rfl
  · have h := constN_ev n b s
    simp only [Va.v] at h
    refine Ev.of_s' E_340 (X_340 _) rfl ?_
    cases nl <;> simp only [List.map_nil, lv, cond_true, cond_false]
    all_goals (conv => whnf); repeat' ((first | intro g | refine CallS.mk _ (h) ?_ | refine st ?_ | (first | refine b1 ?_ ?_ | refine b2 ?_ ?_ | refine Br.mk ?_ ?_) <;> intro hc | exact rfl) <;> conv => whnf)
  · have h := constB_ev n b s
    simp only [Va.v] at h
    refine Ev.of_s' E_340 (X_340 _) rfl ?_
    cases b <;> cases nl <;> simp only [List.map_nil, lv, cond_true, cond_false] at h ⊢
    all_goals (conv => whnf); repeat' ((first | intro g | refine CallS.mk _ (h) ?_ | refine st ?_ | (first | refine b1 ?_ ?_ | refine b2 ?_ ?_ | refine Br.mk ?_ ?_) <;> intro hc | exact rfl) <;> conv => whnf)
  · have h := constS_ev n b s
    simp only [Va.v] at h
    refine Ev.of_s' E_340 (X_340 _) rfl ?_
    cases nl <;> simp only [List.map_nil, lv, cond_true, cond_false]
    all_goals (conv => whnf); repeat' ((first | intro g | refine CallS.mk _ (h) ?_ | refine st ?_ | (first | refine b1 ?_ ?_ | refine b2 ?_ ?_ | refine Br.mk ?_ ?_) <;> intro hc | exact rfl) <;> conv => whnf)
theorem map_nine (K : Int → Bd) {v : Int} (h : varT v ≠ 0) (z : V) : mapGetV false z (esOf K 9) (vi v) = .done (K v).v := by
  have hv : v = 1 ∨ v = 2 ∨ v = 3 ∨ v = 4 ∨ v = 5 ∨ v = 6 ∨ v = 7 ∨ v = 8 ∨ v = 9 := by
    have : ¬ (v < 1 ∨ 9 < v) := fun hh => h (varT_out hh)
    exact nine this
  rcases hv with rfl | rfl | rfl | rfl | rfl | rfl | rfl | rfl | rfl <;> rfl
theorem Bd.form (b : Bd) : ∃ W, b.v = .agg [vi b.lo, vi b.hi, W, .bool b.some, .bool b.text] ∧ (W = .nils ∨ ∃ ys, W = .lit 1 ys) := by
  refine ⟨_, rfl, ?_⟩
  rcases slS_form b.nl b.ws with ⟨e, _⟩ | e
  · exact .inl e
  · exact .inr ⟨_, e⟩
theorem of_var {K : Int → Bd} (var : Int) (nl : Bool) (h : varT var ≠ 0) : Ev E 340 [.mlit (esOf K 9), (Ex.mk 2 var zeroVa nl []).v] ⟨(K var).v, []⟩ := by
  have hmp := esOf_mp K 9
  have hz := map_nine K h (.agg [.int .i64 0, .int .i64 0, .nils, .bool false, .bool false])
  rw [Ex.v_eq]
  generalize esOf K 9 = es at *
  obtain ⟨W, hW, hWf⟩ := (K var).form
  rw [hW] at hz ⊢
  refine Ev.of_s' E_340 (X_340 _) rfl ?_
  rcases hWf with rfl | ⟨ys, rfl⟩ <;> cases nl <;> simp only [List.map_nil, lv, cond_true, cond_false]
  all_goals (conv => whnf); repeat' ((first | intro g | refine Wit.mk _ (hz) ?_ | refine st ?_ | (first | refine b1 ?_ ?_ | refine b2 ?_ ?_ | refine Br.mk ?_ ?_) <;> intro hc | exact rfl) <;> conv => whnf)
set_option maxHeartbeats 1000000 in
theorem of_not {K : Int → Bd} {x : Ex} (hx : Ev E 340 [.mlit (esOf K 9), x.v] ⟨(x.bd K).v, []⟩) (nl : Bool) : Ev E 340 [.mlit (esOf K 9), (Ex.mk 3 0 zeroVa nl [x]).v] ⟨(headBd K 3 0 zeroVa [x.bd K]).v, []⟩ := by
  have hmp := esOf_mp K 9
  have hm2 : modesOf E 340 = [] := rfl
  obtain ⟨a1, b1, c1, d1, e1, f1, L1, hv1, hp1⟩ := x.form3
  rw [hv1] at hx
  generalize esOf K 9 = es at *
  generalize x.bd K = bx at *
  have hpa : V.arePure [.mlit es, .agg [vi a1, vi b1, vi c1, vi d1, .bool e1, .str f1, L1]] = true := by simp only [V.arePure, hmp, hp1, Bool.and_self]
  rw [Ex.v_eq]
  simp only [List.map_cons, List.map_nil, lv_cons, hv1, zeroVa]
  refine Ev.of_s' E_340 (X_340 _) rfl ?_
  (conv => whnf); repeat' ((first | refine sAct_fn hm2 hpa hx (Bd.pure _) ?_ | intro g | refine st ?_ | (first | refine b1 ?_ ?_ | refine b2 ?_ ?_ | refine Br.mk ?_ ?_) <;> intro hc | exact rfl) <;> conv => whnf)
set_option maxHeartbeats 1000000 in
theorem of_if {K : Int → Bd} {x y z : Ex} {t : Int} {m n : Nat} (hx : Ev E 340 [.mlit (esOf K 9), x.v] ⟨(x.bd K).v, []⟩) (hy : Ev E 340 [.mlit (esOf K 9), y.v] ⟨(y.bd K).v, []⟩) (hz : Ev E 340 [.mlit (esOf K 9), z.v] ⟨(z.bd K).v, []⟩)
    (oy : BdOk t m (y.bd K)) (oz : BdOk t n (z.bd K)) (hm : m < 100) (hn : n < 100) (nl : Bool) : Ev E 340 [.mlit (esOf K 9), (Ex.mk 13 0 zeroVa nl [x, y, z]).v] ⟨(headBd K 13 0 zeroVa [x.bd K, y.bd K, z.bd K]).v, []⟩ := by
  have hmp := esOf_mp K 9
  have hm2 : modesOf E 340 = [] := rfl
  have hm3 : modesOf E 378 = [] := rfl
  obtain ⟨a1, b1, c1, d1, e1, f1, L1, hv1, hp1⟩ := x.form3
  obtain ⟨a2, b2, c2, d2, e2, f2, L2, hv2, hp2⟩ := y.form3
  obtain ⟨a3, b3, c3, d3, e3, f3, L3, hv3, hp3⟩ := z.form3
  rw [hv1] at hx
  rw [hv2] at hy
  rw [hv3] at hz
  generalize esOf K 9 = es at *
  generalize x.bd K = bx at *
  generalize y.bd K = by1 at *
  generalize z.bd K = bz at *
  have hpa : V.arePure [.mlit es, .agg [vi a1, vi b1, vi c1, vi d1, .bool e1, .str f1, L1]] = true := by simp only [V.arePure, hmp, hp1, Bool.and_self]
  have hpb : V.arePure [.mlit es, .agg [vi a2, vi b2, vi c2, vi d2, .bool e2, .str f2, L2]] = true := by simp only [V.arePure, hmp, hp2, Bool.and_self]
  have hpc : V.arePure [.mlit es, .agg [vi a3, vi b3, vi c3, vi d3, .bool e3, .str f3, L3]] = true := by simp only [V.arePure, hmp, hp3, Bool.and_self]
  have hR : headBd K 13 0 zeroVa [bx, by1, bz] = if bx.lo = 1 then by1 else if bx.hi = 0 then bz else either by1 bz := rfl
  rw [hR, Ex.v_eq]
  simp only [List.map_cons, List.map_nil, lv_cons, hv1, hv2, hv3, zeroVa]
  by_cases c1 : bx.lo = 1
  · rw [if_pos c1]
    obtain ⟨W, hW, hWf⟩ := by1.form
    rw [hW] at hy ⊢
    rcases hWf with rfl | ⟨ys, rfl⟩
    all_goals
      refine Ev.of_s' E_340 (X_340 _) rfl ?_
      (conv => whnf); repeat' ((first | refine sAct_fn hm2 hpa hx (Bd.pure _) ?_ | refine sAct_fn hm2 hpb hy rfl ?_ | intro g | refine st ?_ | (first | refine b1 ?_ ?_ | refine b2 ?_ ?_ | refine Br.mk ?_ ?_) <;> intro hc | exact rfl) <;> conv => whnf)
  · rw [if_neg c1]
    by_cases c2 : bx.hi = 0
    · rw [if_pos c2]
      obtain ⟨W, hW, hWf⟩ := bz.form
      rw [hW] at hz ⊢
      rcases hWf with rfl | ⟨ys, rfl⟩
      all_goals
        refine Ev.of_s' E_340 (X_340 _) rfl ?_
        (conv => whnf); repeat' ((first | refine sAct_fn hm2 hpa hx (Bd.pure _) ?_ | refine sAct_fn hm2 hpc hz rfl ?_ | intro g | refine st ?_ | (first | refine b1 ?_ ?_ | refine b2 ?_ ?_ | refine Br.mk ?_ ?_) <;> intro hc | exact rfl) <;> conv => whnf)
    · rw [if_neg c2]
      obtain ⟨w, hw, hres⟩ := either_ev oy oz hm hn
      have himp := fun r k => hres.imp r k
      have hpd : V.arePure [by1.v, bz.v] = true := by simp only [V.arePure, Bd.pure, Bool.and_self]
      obtain ⟨W, hW, hWf⟩ := (either by1 bz).form
      rw [hW] at himp ⊢
      rcases hWf with rfl | ⟨ys, rfl⟩
      all_goals
        refine Ev.of_s' E_340 (X_340 _) rfl ?_
        (conv => whnf); repeat' ((first | refine sAct_fn hm2 hpa hx (Bd.pure _) ?_ | refine sAct_fn hm2 hpb hy (Bd.pure _) ?_ | refine sAct_fn hm2 hpc hz (Bd.pure _) ?_ | refine sAct_fnI hm3 hpd hw himp ?_ | intro g | refine st ?_ | (first | refine b1 ?_ ?_ | refine b2 ?_ ?_ | refine Br.mk ?_ ?_) <;> intro hc | exact rfl) <;> conv => whnf)
set_option maxHeartbeats 1000000 in
theorem of_op {K : Int → Bd} {x y : Ex} {op : Int} (hop : 4 ≤ op ∧ op ≤ 12) (hx : Ev E 340 [.mlit (esOf K 9), x.v] ⟨(x.bd K).v, []⟩) (hy : Ev E 340 [.mlit (esOf K 9), y.v] ⟨(y.bd K).v, []⟩)
    (lx : (x.bd K).ws.length < 1000000) (ly : (y.bd K).ws.length < 1000000) (nl : Bool) : Ev E 340 [.mlit (esOf K 9), (Ex.mk op 0 zeroVa nl [x, y]).v] ⟨(opBd op (x.bd K) (y.bd K)).v, []⟩ := by
  have hmp := esOf_mp K 9
  have hm2 : modesOf E 340 = [] := rfl
  obtain ⟨g0, hg, hmg, hgf⟩ := opfn hop
  have hgf := hgf _ _ lx ly
  obtain ⟨p, q, hpq⟩ := opBd_nb op (x.bd K) (y.bd K)
  rw [hpq] at hgf ⊢
  obtain ⟨a1, b1, c1, d1, e1, f1, L1, hv1, hp1⟩ := x.form3
  obtain ⟨a2, b2, c2, d2, e2, f2, L2, hv2, hp2⟩ := y.form3
  rw [hv1] at hx
  rw [hv2] at hy
  generalize esOf K 9 = es at *
  generalize x.bd K = bx at *
  generalize y.bd K = by1 at *
  have hpa : V.arePure [.mlit es, .agg [vi a1, vi b1, vi c1, vi d1, .bool e1, .str f1, L1]] = true := by simp only [V.arePure, hmp, hp1, Bool.and_self]
  have hpb : V.arePure [.mlit es, .agg [vi a2, vi b2, vi c2, vi d2, .bool e2, .str f2, L2]] = true := by simp only [V.arePure, hmp, hp2, Bool.and_self]
  have hpd : V.arePure [bx.v, by1.v] = true := by simp only [V.arePure, Bd.pure, Bool.and_self]
  have hoi := opidx_ev hop (r := [vi 0, vi 0, vi 0, .bool false, .str [], .lit 7 [.agg [vi a1, vi b1, vi c1, vi d1, .bool e1, .str f1, L1], .agg [vi a2, vi b2, vi c2, vi d2, .bool e2, .str f2, L2]]]) rfl
  have n1 : ¬ op = 1 := by omega
  have n2 : ¬ op = 2 := by omega
  have n3 : ¬ op = 3 := by omega
  have n13 : ¬ op = 13 := by omega
  have hi0 : 0 ≤ op - 4 := by omega
  have hi9 : op - 4 < 9 := by omega
  rw [Ex.v_eq]
  simp only [List.map_cons, List.map_nil, lv_cons, hv1, hv2, zeroVa]
  refine Ev.of_s' E_340 (X_340 _) rfl ?_
  (conv => whnf); repeat' ((first | refine sAct_fn hm2 hpa hx (Bd.pure _) ?_ | refine sAct_fn hm2 hpb hy (Bd.pure _) ?_ | refine sAct_fn hmg hpd hgf rfl ?_ | intro g | refine Wit.mk _ (hg) ?_ | refine CallS.mk _ (operators_ev) ?_ | refine CallS.mk _ (hoi) ?_ | refine st ?_ | (first | refine b1 ?_ ?_ | refine b2 ?_ ?_ | refine Br.mk ?_ ?_) <;> intro hc | exact rfl) <;> conv => whnf)
theorem of_ev {K : Int → Bd} (hK : KOk K) : ∀ (k : Nat) (e : Ex), e.size ≤ k → k < 100 → e.typ ≠ 0 → Ev E 340 [.mlit (esOf K 9), e.v] ⟨(e.bd K).v, []⟩
  | 0, e, h, _, _ => by have := e.size_pos; omega
  | k + 1, .mk op var val nl l, h, hk, ht => by
    have hc := typ_cases ht
    rw [Ex.bd_eq]
    have hsz : (Ex.mk op var val nl l).size = 1 + Ex.sizes l := by simp only [Ex.size]
    rcases hc with ⟨rfl, rfl, rfl, hr, e⟩ | ⟨rfl, rfl, rfl, hv, e⟩ | ⟨x, rfl, rfl, rfl, rfl, hx, e⟩ | ⟨x, y, ho, rfl, rfl, rfl, hx, hy, e, _⟩ | ⟨x, y, z, rfl, rfl, rfl, rfl, hx, hy, hz, e⟩
    · exact of_const val nl hr
    · exact of_var var nl hv
    · have sx : Ex.sizes [x] = x.size := by simp [Ex.sizes]
      exact of_not (of_ev hK k x (by omega) (by omega) (by omega)) nl
    · have sx : Ex.sizes [x, y] = x.size + y.size := by simp [Ex.sizes]
      have l1 := (bd_ok hK _ x (Nat.le_refl _) hx).len
      have l2 := (bd_ok hK _ y (Nat.le_refl _) hy).len
      exact of_op ho (of_ev hK k x (by omega) (by omega) hx) (of_ev hK k y (by omega) (by omega) hy) (by omega) (by omega) nl
    · have sx : Ex.sizes [x, y, z] = x.size + (y.size + z.size) := by simp [Ex.sizes]
      have oz := bd_ok hK _ z (Nat.le_refl _) (by omega)
      rw [hz] at oz
      exact of_if (of_ev hK k x (by omega) (by omega) (by omega)) (of_ev hK k y (by omega) (by omega) hy) (of_ev hK k z (by omega) (by omega) (by omega)) (bd_ok hK _ y (Nat.le_refl _) hy) oz (by omega) (by omega) nl
end Go.AM
