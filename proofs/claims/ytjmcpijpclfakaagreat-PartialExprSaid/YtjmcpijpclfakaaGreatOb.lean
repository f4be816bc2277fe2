/-
  Texts of the proof, joined by program: PSimR5b. Own work.
-/
import Derived.Test.YtjmcpijpclfakaaGreatKa
import Derived.Test.YtjmcpijpclfakaaGreatB
set_option linter.unusedSimpArgs false
set_option linter.unusedVariables false
set_option maxRecDepth 20000
namespace Go.AM
set_option maxHeartbeats 4000000 in
theorem simr_5b {x y : Ex} {l : List Ex} (hl : l = [x, y]) {Bx By : Bd} {sv : V} {S : Ex → Ex} {t : Int} {val : Va} {var : Int} {nl : Bool} {vv : V} (hsv : Sv sv) (hlen : l.length < 1000000)
    (hch : Ev E 341 [(Ex.mk 5 var val nl l).v] ⟨.tuple [vi t, vi 0], []⟩) (hval : Ev E 345 [(Ex.mk 5 var val nl l).v, vi t, sv] ⟨vv, []⟩) (hcv : ConV none vv)
    (hcp : Ev E 334 [(Ex.mk 5 var val nl l).v] ⟨(Ex.mk 5 var val nl l).norm.ov, []⟩)
    (ofx : Ev E 342 [x.v, sv] ⟨.tuple [vi Bx.lo, vi Bx.hi], []⟩) (ofy : Ev E 342 [y.v, sv] ⟨.tuple [vi By.lo, vi By.hi], []⟩)
    (ih : ∀ x ∈ l, ∃ r, Ev E 321 [x.v, sv] ⟨r, []⟩ ∧ ExR (S x) r) (q1 : ¬ Bx.hi = 0) (q2 : By.hi = 0) : ∃ r, Ev E 321 [(Ex.mk 5 var val nl l).v, sv] ⟨r, []⟩ ∧ ExR (simHead none 5 var val [Bx, By] (l.map S)) r := by
  obtain ⟨Xe, rfl, _⟩ := hcv
  have hm2 : modesOf E 342 = [] := rfl
  have hm3 : modesOf E 345 = [] := rfl
  have hm4 : modesOf E 321 = [] := rfl
  obtain ⟨a0, b0, c0, d0, e0, f0, L0, hv0, hp0⟩ := Xe.form3
  rw [hv0] at hval
  have hpv : V.isPure (.tuple [.agg [vi a0, vi b0, vi c0, vi d0, .bool e0, .str f0, L0], .bool (none : Option Ex).isSome]) = true := by
    simp only [V.isPure, V.arePure, Bool.and_eq_true] at hp0 ⊢
    simp [hp0]
  have hne : 0 < l.length := by rw [hl]; simp
  have hll : l.length = 2 := by rw [hl]; rfl
  have lm : (l.map Ex.v).length = 2 := by rw [List.length_map, hll]
  have hx : l[0]? = some x := by rw [hl]; rfl
  obtain ⟨rx, hex, hrx⟩ := ih x (by rw [hl]; simp)
  have hix := fun r k => hrx.imp r k
  obtain ⟨a1x, b1x, c1x, d1x, e1x, f1x, L1x, hvx, hpx⟩ := x.form3
  rw [hvx] at ofx hex
  have hy : l[1]? = some y := by rw [hl]; rfl
  obtain ⟨ry, hey, hry⟩ := ih y (by rw [hl]; simp)
  have hiy := fun r k => hry.imp r k
  obtain ⟨a1y, b1y, c1y, d1y, e1y, f1y, L1y, hvy, hpy⟩ := y.form3
  rw [hvy] at ofy hey
  have hlv : lv nl (l.map Ex.v) = .lit 7 (l.map Ex.v) := by
    cases l with
    | nil => simp at hne
    | cons y ys => rfl
  have hov : (Ex.mk 5 var val nl l).norm.ov = .agg [vi 5, vi var, vi val.t, vi val.n, .bool val.b, .str val.s, .own 7 ((l.map Ex.norm).map Ex.v)] := by
    cases l with
    | nil => simp at hne
    | cons y ys => simp only [Ex.norm, Ex.norms_eq, Ex.ov]; rfl
  rw [hov] at hcp
  rw [Ex.v_eq, hlv] at hch hval hcp ⊢
  have hpa : ∀ w, V.isPure w = true → V.arePure [.agg [vi 5, vi var, vi val.t, vi val.n, .bool val.b, .str val.s, .lit 7 (l.map Ex.v)], vi t, w] = true := fun w h => by simp only [V.arePure, h, Bool.and_self, Bool.and_true]; rfl
  have hR : simHead none 5 var val [Bx, By] (l.map S) = S x := by simp [hl, simHead, pick, q1, q2]
  rw [hR]
  obtain ⟨a8, b8, c8, d8, e8, f8, M8, hv8, hM8⟩ := (S x).form
  rw [hv8] at hix
  refine ⟨(S x).v, ?_, .inl rfl⟩
  rw [hv8]
  rcases hM8 with rfl | ⟨us, rfl⟩ <;> rcases hsv with rfl | ⟨ks, rfl⟩
  all_goals
    refine Ev.of_s' E_321 (X_321 _) rfl ?_
    (conv => whnf); repeat' ((first | intro g | refine Wit.mk _ (map_getE hx hvx rfl) ?_ | refine Wit.mk _ (map_getE hy hvy rfl) ?_ | refine CallS.mk _ (hch) ?_ | refine CallS.mk _ (hcp) ?_ | refine st ?_ | (first | refine b1 ?_ ?_ | refine b2 ?_ ?_ | refine Br.mk ?_ ?_) <;> intro hc | exact rfl | ((refine CallS.mk _ hval ?_; simp only [putOuts2, importRes2, hpv, cond_true, List.append_nil])) | refine sAct_fn hm2 (apure2 hpx rfl) ofx rfl ?_ | refine sAct_fn hm2 (apure2 hpy rfl) ofy rfl ?_ | refine sAct_fnI hm4 (apure2 hpx rfl) hex hix ?_) <;> conv => whnf)
end Go.AM
