/-
  Texts of the proof, joined by program: PRefA, PRefB. Own work.
-/
import Derived.Test.YtjmcpijpclfakaaGreatIa
set_option linter.unusedSimpArgs false
set_option linter.unusedVariables false
set_option maxRecDepth 20000
namespace Go.AM
theorem product_ev (a b : Bd) : Ev E 386 [vi a.lo, vi a.hi, vi b.lo, vi b.hi] ⟨.tuple [vi (prodL a b), vi (prodH a b)], []⟩ := by
  refine Ev.of_s' E_386 (X_386 _) rfl ?_
  (conv => whnf); repeat' ((first | intro g | refine CallS.mk _ (rlim_ev _) ?_ | refine st ?_ | (first | refine b1 ?_ ?_ | refine b2 ?_ ?_ | refine Br.mk ?_ ?_) <;> intro hc | exact rfl) <;> conv => whnf)
theorem rtextsN_ev (v : Int) : Ev E 417 [.nils, vi v] ⟨.tuple [.own 1 [], .bool false], []⟩ := by
  refine Ev.of_s' E_417 (X_417 _) rfl ?_
  (conv => whnf); repeat' ((first | intro g | refine st ?_ | (first | refine b1 ?_ ?_ | refine b2 ?_ ?_ | refine Br.mk ?_ ?_) <;> intro hc | exact rfl) <;> conv => whnf)
  refine LoopS.by (fun (i : Nat) => ⟨[(0, .nils), (1, vi v), (6, vi (-1)), (7, vi (-1))], []⟩) (fun i => i = 0) (fun i => 0) 0 (by (refine ⟨?_, ?_⟩ <;> repeat' (first | exact True.intro | refine ai ?_ | refine And.intro ?_ ?_))) rfl ?_
  rintro i rfl
  (conv => whnf); repeat' ((first | intro g | refine st ?_ | (first | refine b1 ?_ ?_ | refine b2 ?_ ?_ | refine Br.mk ?_ ?_) <;> intro hc | exact rfl) <;> conv => whnf)
theorem factT {l : List Kno} (v : Int) (h : varT v = 3) : factB l v = ⟨0, 0, true, textsW (ownOf v l), !(textsW (ownOf v l)).isEmpty, true⟩ := by
  simp [factB, h, textsB]
theorem rtextsA_ev {l : List Kno} {sv : V} (hl : KFit l) (hs : IsS 4 (l.map Kno.v) sv) (v : Int) (h : varT v = 3) : Ev E 417 [sv, vi v] ⟨.tuple [.own 1 ((factB l v).ws.map V.str), .bool (factB l v).some], []⟩ := by
  rw [factT v h]
  rcases hs with rfl | ⟨h0, rfl⟩
  · exact rtexts_ev v hl
  · have : l = [] := by simpa using h0
    subst this
    exact rtextsN_ev v
theorem rknown_ev {l : List Kno} {sv : V} (hl : KFit l) (hs : IsS 4 (l.map Kno.v) sv) (v : Int) (h : varT v ≠ 3) : Ev E 384 [sv, vi v] ⟨.tuple [vi (factB l v).lo, vi (factB l v).hi], []⟩ := by
  have e : factB l v = rngB v l := by simp [factB, h]
  rw [e]
  have := hl.len
  exact known_ev hs v (by omega)
def RW (ws : List Str) (so : Bool) (v : V) : Prop := v = .tuple [.own 1 (ws.map V.str), .bool so] ∨ v = .tuple [.lit 1 (ws.map V.str), .bool so]
theorem RW.imp {ws : List Str} {so : Bool} {v : V} (h : RW ws so v) (r : Nat) (k : V → Act2) : importRes2 false r [] v k = k (.tuple [.lit 1 (ws.map V.str), .bool so]) := by
  rcases h with rfl | rfl <;> rfl
theorem apure2 {v w : V} (h : V.isPure v = true) (k : V.isPure w = true) : V.arePure [v, w] = true := by simp only [V.arePure, h, k, Bool.and_self]
def Sv (sv : V) : Prop := sv = .nils ∨ ∃ ks, sv = .lit 4 ks
theorem IsS.sv {xs : List V} {sv : V} (h : IsS 4 xs sv) : Sv sv := by
  rcases h with rfl | ⟨_, rfl⟩
  · exact .inr ⟨_, rfl⟩
  · exact .inl rfl
def Words (sv : V) (K : Int → Bd) (e : Ex) : Prop := ∃ v, Ev E 388 [e.v, sv] ⟨v, []⟩ ∧ RW (e.bd K).ws (e.bd K).some v
def Bounds (sv : V) (K : Int → Bd) (e : Ex) : Prop := Ev E 342 [e.v, sv] ⟨.tuple [vi (e.bd K).lo, vi (e.bd K).hi], []⟩
theorem words_const {sv : V} (hsv : Sv sv) (K : Int → Bd) (n : Int) (b : Bool) (s : Str) (nl : Bool) : Words sv K (.mk 1 0 ⟨3, n, b, s⟩ nl []) := by
  refine ⟨_, ?_, .inl rfl⟩
  rw [Ex.v_eq]
  simp only [Ex.bd, Ex.bds]
  refine Ev.of_s' E_388 (X_388 _) rfl ?_
  rcases hsv with rfl | ⟨ks, rfl⟩ <;> cases nl <;> simp only [List.map_nil, lv, cond_true, cond_false]
  all_goals (conv => whnf); repeat' ((first | intro g | refine st ?_ | (first | refine b1 ?_ ?_ | refine b2 ?_ ?_ | refine Br.mk ?_ ?_) <;> intro hc | exact rfl) <;> conv => whnf)
theorem words_var {l : List Kno} {sv : V} (hl : KFit l) (hs : IsS 4 (l.map Kno.v) sv) (v : Int) (h : varT v = 3) (nl : Bool) : Words sv (factB l) (.mk 2 v zeroVa nl []) := by
  have hr := rtextsA_ev hl hs v h
  have hsv := hs.sv
  have hm2 : modesOf E 417 = [] := rfl
  refine ⟨_, ?_, .inr rfl⟩
  rw [Ex.v_eq]
  have e : (Ex.mk 2 v zeroVa nl []).bd (factB l) = factB l v := by simp [Ex.bd, Ex.bds, headBd]
  rw [e]
  generalize (factB l v).ws = ws at *
  generalize (factB l v).some = so at *
  refine Ev.of_s' E_388 (X_388 _) rfl ?_
  clear hs
  rcases hsv with rfl | ⟨ks, rfl⟩ <;> cases nl <;> simp only [List.map_nil, lv, cond_true, cond_false]
  all_goals (conv => whnf); repeat' ((first | intro g | refine CallS.mk _ (hr) ?_ | refine st ?_ | (first | refine b1 ?_ ?_ | refine b2 ?_ ?_ | refine Br.mk ?_ ?_) <;> intro hc | exact rfl) <;> conv => whnf)
theorem bounds_const {sv : V} (hsv : Sv sv) (K : Int → Bd) {val : Va} (hr : val.right = true) (h3 : val.t ≠ 3) (nl : Bool) : Bounds sv K (.mk 1 0 val nl []) := by
  have ht := right_t hr
  obtain ⟨t, n, b, s⟩ := val
  dsimp only at ht h3
  unfold Bounds
  rw [Ex.v_eq]
  simp only [Ex.bd, Ex.bds, headBd, if_true]
  have hn := number_ev t n b s
  simp only [Va.v] at hn
  have hb : t = 1 → b = false := by
    rintro rfl
    simp only [Va.right, if_true, Bool.and_eq_true, Bool.not_eq_true'] at hr
    exact hr.1.2
  have hn0 : t = 2 → n = 0 := by
    rintro rfl
    simp only [Va.right, Int.reduceEq, if_false, if_true, Bool.and_eq_true, decide_eq_true_eq] at hr
    exact hr.1
  rcases ht with rfl | rfl | rfl
  · obtain rfl := hb rfl
    refine Ev.of_s' E_342 (X_342 _) rfl ?_
    rcases hsv with rfl | ⟨ks, rfl⟩ <;> cases nl <;> simp only [List.map_nil, lv, cond_true, cond_false]
    all_goals (conv => whnf); repeat' ((first | intro g | refine CallS.mk _ (hn) ?_ | refine st ?_ | (first | refine b1 ?_ ?_ | refine b2 ?_ ?_ | refine Br.mk ?_ ?_) <;> intro hc | exact rfl) <;> conv => whnf)
  · obtain rfl := hn0 rfl
    refine Ev.of_s' E_342 (X_342 _) rfl ?_
    rcases hsv with rfl | ⟨ks, rfl⟩ <;> cases b <;> cases nl <;> simp only [List.map_nil, lv, cond_true, cond_false] at hn ⊢
    all_goals (conv => whnf); repeat' ((first | intro g | refine CallS.mk _ (hn) ?_ | refine st ?_ | (first | refine b1 ?_ ?_ | refine b2 ?_ ?_ | refine Br.mk ?_ ?_) <;> intro hc | exact rfl) <;> conv => whnf)
  · exact absurd rfl h3
theorem bounds_var {l : List Kno} {sv : V} (hl : KFit l) (hs : IsS 4 (l.map Kno.v) sv) (v : Int) (h : varT v ≠ 3) (nl : Bool) : Bounds sv (factB l) (.mk 2 v zeroVa nl []) := by
  have hr := rknown_ev hl hs v h
  have hsv := hs.sv
  unfold Bounds
  rw [Ex.v_eq]
  have e : (Ex.mk 2 v zeroVa nl []).bd (factB l) = factB l v := by simp [Ex.bd, Ex.bds, headBd]
  rw [e]
  generalize (factB l v).lo = lo at *
  generalize (factB l v).hi = hi at *
  refine Ev.of_s' E_342 (X_342 _) rfl ?_
  clear hs
  rcases hsv with rfl | ⟨ks, rfl⟩ <;> cases nl <;> simp only [List.map_nil, lv, cond_true, cond_false]
  all_goals (conv => whnf); repeat' ((first | intro g | refine CallS.mk _ (hr) ?_ | refine st ?_ | (first | refine b1 ?_ ?_ | refine b2 ?_ ?_ | refine Br.mk ?_ ?_) <;> intro hc | exact rfl) <;> conv => whnf)
theorem bounds_not {sv : V} (hsv : Sv sv) {K : Int → Bd} {x : Ex} (hx : Bounds sv K x) (nl : Bool) : Bounds sv K (.mk 3 0 zeroVa nl [x]) := by
  unfold Bounds at *
  have e : (Ex.mk 3 0 zeroVa nl [x]).bd K = nb (w64 (1 - (x.bd K).hi)) (w64 (1 - (x.bd K).lo)) := by simp [Ex.bd, Ex.bds, headBd]
  rw [e]
  have hm2 : modesOf E 342 = [] := rfl
  obtain ⟨a1, b1, c1, d1, e1, f1, L1, hv1, hp1⟩ := x.form3
  rw [hv1] at hx
  generalize x.bd K = bx at *
  rw [Ex.v_eq]
  simp only [List.map_cons, List.map_nil, lv_cons, hv1, zeroVa]
  rcases hsv with rfl | ⟨ks, rfl⟩
  all_goals
    refine Ev.of_s' E_342 (X_342 _) rfl ?_
    (conv => whnf); repeat' ((first | refine sAct_fn hm2 (apure2 hp1 rfl) hx rfl ?_ | intro g | refine st ?_ | (first | refine b1 ?_ ?_ | refine b2 ?_ ?_ | refine Br.mk ?_ ?_) <;> intro hc | exact rfl) <;> conv => whnf)
end Go.AM
set_option maxRecDepth 20000
namespace Go.AM
set_option maxHeartbeats 2000000 in
theorem bounds_if {sv : V} (hsv : Sv sv) {K : Int → Bd} {x y z : Ex} (hx : Bounds sv K x) (hy : Bounds sv K y) (hz : Bounds sv K z) (hyt : (y.bd K).text = false) (nl : Bool) : Bounds sv K (.mk 13 0 zeroVa nl [x, y, z]) := by
  unfold Bounds at *
  have e : (Ex.mk 13 0 zeroVa nl [x, y, z]).bd K = if (x.bd K).lo = 1 then y.bd K else if (x.bd K).hi = 0 then z.bd K else nb (imin (y.bd K).lo (z.bd K).lo) (imax (y.bd K).hi (z.bd K).hi) := by
    simp [Ex.bd, Ex.bds, headBd, either, hyt]
  rw [e]
  have hm2 : modesOf E 342 = [] := rfl
  obtain ⟨a1, b1, c1, d1, e1, f1, L1, hv1, hp1⟩ := x.form3
  obtain ⟨a2, b2, c2, d2, e2, f2, L2, hv2, hp2⟩ := y.form3
  obtain ⟨a3, b3, c3, d3, e3, f3, L3, hv3, hp3⟩ := z.form3
  rw [hv1] at hx
  rw [hv2] at hy
  rw [hv3] at hz
  generalize x.bd K = bx at *
  generalize y.bd K = by1 at *
  generalize z.bd K = bz at *
  rw [Ex.v_eq]
  simp only [List.map_cons, List.map_nil, lv_cons, hv1, hv2, hv3, zeroVa]
  rcases hsv with rfl | ⟨ks, rfl⟩
  all_goals
    by_cases q1 : bx.lo = 1
    · rw [if_pos q1]
      refine Ev.of_s' E_342 (X_342 _) rfl ?_
      (conv => whnf); repeat' ((first | refine sAct_fn hm2 (apure2 hp1 rfl) hx rfl ?_ | refine sAct_fn hm2 (apure2 hp2 rfl) hy rfl ?_ | refine sAct_fn hm2 (apure2 hp3 rfl) hz rfl ?_ | intro g | refine st ?_ | (first | refine b1 ?_ ?_ | refine b2 ?_ ?_ | refine Br.mk ?_ ?_) <;> intro hc | exact rfl) <;> conv => whnf)
    · rw [if_neg q1]
      by_cases q2 : bx.hi = 0
      · rw [if_pos q2]
        refine Ev.of_s' E_342 (X_342 _) rfl ?_
        (conv => whnf); repeat' ((first | refine sAct_fn hm2 (apure2 hp1 rfl) hx rfl ?_ | refine sAct_fn hm2 (apure2 hp2 rfl) hy rfl ?_ | refine sAct_fn hm2 (apure2 hp3 rfl) hz rfl ?_ | intro g | refine st ?_ | (first | refine b1 ?_ ?_ | refine b2 ?_ ?_ | refine Br.mk ?_ ?_) <;> intro hc | exact rfl) <;> conv => whnf)
      · rw [if_neg q2]
        refine Ev.of_s' E_342 (X_342 _) rfl ?_
        (conv => whnf); repeat' ((first | refine sAct_fn hm2 (apure2 hp1 rfl) hx rfl ?_ | refine sAct_fn hm2 (apure2 hp2 rfl) hy rfl ?_ | refine sAct_fn hm2 (apure2 hp3 rfl) hz rfl ?_ | intro g | refine st ?_ | (first | refine b1 ?_ ?_ | refine b2 ?_ ?_ | refine Br.mk ?_ ?_) <;> intro hc | exact rfl) <;> conv => whnf)
set_option maxHeartbeats 4000000 in
theorem bounds_op {sv : V} (hsv : Sv sv) {K : Int → Bd} {x y : Ex} {op : Int} (hop : (4 ≤ op ∧ op ≤ 12) ∧ op ≠ 6) (hx : Bounds sv K x) (hy : Bounds sv K y) (nl : Bool) : Bounds sv K (.mk op 0 zeroVa nl [x, y]) := by
  unfold Bounds at *
  have e : (Ex.mk op 0 zeroVa nl [x, y]).bd K = opBd op (x.bd K) (y.bd K) := by simp [Ex.bd, Ex.bds, headBd]
  rw [e]
  have hm2 : modesOf E 342 = [] := rfl
  obtain ⟨a1, b1, c1, d1, e1, f1, L1, hv1, hp1⟩ := x.form3
  obtain ⟨a2, b2, c2, d2, e2, f2, L2, hv2, hp2⟩ := y.form3
  rw [hv1] at hx
  rw [hv2] at hy
  generalize x.bd K = bx at *
  generalize y.bd K = by1 at *
  have hpr := product_ev bx by1
  rw [Ex.v_eq]
  simp only [List.map_cons, List.map_nil, lv_cons, hv1, hv2, zeroVa]
  have hop2 : op = 4 ∨ op = 5 ∨ op = 7 ∨ op = 8 ∨ op = 9 ∨ op = 10 ∨ op = 11 ∨ op = 12 := by omega
  rcases hop2 with rfl | rfl | rfl | rfl | rfl | rfl | rfl | rfl <;> rcases hsv with rfl | ⟨ks, rfl⟩
  all_goals
    refine Ev.of_s' E_342 (X_342 _) rfl ?_
    (conv => whnf); repeat' ((first | refine sAct_fn hm2 (apure2 hp1 rfl) hx rfl ?_ | refine sAct_fn hm2 (apure2 hp2 rfl) hy rfl ?_ | intro g | refine CallS.mk _ (rlim_ev _) ?_ | refine CallS.mk _ (hpr) ?_ | refine st ?_ | (first | refine b1 ?_ ?_ | refine b2 ?_ ?_ | refine Br.mk ?_ ?_) <;> intro hc | exact rfl) <;> conv => whnf)
  all_goals simp only [decide_eq_true_eq, decide_eq_false_iff_not] at *
  all_goals simp [opBd, lessB, nb, *]
end Go.AM
