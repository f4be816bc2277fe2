/-
  Texts of the proof, joined by program: PGenA, PGenB, PGenC, PGenD. Own work.
-/
import Derived.Test.YtjmcpijpclfakaaGreatA
import Derived.Test.YtjmcpijpclfakaaGreatD
import Derived.Test.YtjmcpijpclfakaaGreatHa
set_option linter.unusedSimpArgs false
set_option linter.unusedVariables false
set_option maxRecDepth 20000
namespace Go.AM
structure Mk (t : Int) (n : Nat) (e : Ex) : Prop where
  fit : e.Fit
  size : e.size ≤ n
  typ : e.typ = t
def texts6 : List Str := [[], [116, 114, 101, 101], [102, 105, 101, 108, 100], [112, 97, 116, 104], [77, 111, 111, 114], [71, 97, 116, 101]]
theorem texts_ev : Ev E 332 [] ⟨.own 1 (texts6.map V.str), []⟩ := by
  refine Ev.of_s' E_332 (X_332 _) rfl ?_
  (conv => whnf); repeat' ((first | intro g | refine st ?_ | (first | refine b1 ?_ ?_ | refine b2 ?_ ?_ | refine Br.mk ?_ ?_) <;> intro hc | exact rfl) <;> conv => whnf)
theorem mk_const {v : Va} (hr : v.right = true) (hs : v.s.length < 4611686018427387904) : Mk v.t 1 (.mk 1 0 v false []) :=
  ⟨.mk _ _ _ _ _ hs (by simp), by simp [Ex.size, Ex.sizes], by simp [Ex.typ, Ex.typs, headT, okHead, many, hr]⟩
theorem mk_var {v : Int} (hv : varT v ≠ 0) : Mk (varT v) 1 (.mk 2 v zeroVa false []) :=
  ⟨.mk _ _ _ _ _ (by simp [zeroVa]) (by simp), by simp [Ex.size, Ex.sizes], by simp [Ex.typ, Ex.typs, headT, okHead, many, Va.zero, zeroVa]⟩
theorem leafEx_v (op var : Int) (v : Va) : (Ex.mk op var v false []).v = .agg [vi op, vi var, vi v.t, vi v.n, .bool v.b, .str v.s, .lit 7 []] := by
  rw [Ex.v_eq]; rfl
set_option maxHeartbeats 2000000 in
theorem leaf_ev {l : List Int} (hl : l.length < 9223372036854775808) (a0 : Nat) {t : Int} (ht : t = 1 ∨ t = 2 ∨ t = 3) : ∃ (e : Ex) (a : Nat), Mk t 1 e ∧ (∃ op var val, e = .mk op var val false []) ∧ Ev E 367 [.mptr 2 [drawV l a0] 0 0, vi t] ⟨e.v, [(0, [drawV l a])]⟩ := by
  have key := Ev.of_s (R := fun r => ∃ (e : Ex) (a : Nat), Mk t 1 e ∧ (∃ op var val, e = .mk op var val false []) ∧ r = ⟨e.v, [(0, [drawV l a])]⟩) E_367 (X_367 [.mptr 2 [drawV l a0] 0 0, vi t]) rfl ?_
  · obtain ⟨r, h1, e, a, h2, h3, rfl⟩ := key
    exact ⟨e, a, h2, h3, h1⟩
  have hn : ∀ n a, 0 < n → n < 1000 → Ev E 85 [.mptr 2 [drawV l a] 0 0, vnat n] ⟨vnat (nextR l a n), [(0, [drawV l (nextA l a)])]⟩ := fun n a h h2 => next_ev hl n h (by omega)
  have hn2 := hn 2 a0 (by decide) (by decide)
  generalize nextA l a0 = a1 at hn2
  generalize hr0 : nextR l a0 2 = r0 at hn2
  by_cases hz : r0 = 0
  · subst hz
    have hw : ∃ w : Nat, 1 ≤ w ∧ w ≤ 9 ∧ varT w = t := by
      rcases ht with rfl | rfl | rfl
      · exact ⟨1, by decide, by decide, rfl⟩
      · exact ⟨6, by decide, by decide, rfl⟩
      · exact ⟨2, by decide, by decide, rfl⟩
    obtain ⟨w, hw1, hw9, hwt⟩ := hw
    have ht0 : t ≠ 0 := by omega
    (conv => whnf); repeat' ((first | intro g | refine CallS.mk _ (hn2) ?_ | refine st ?_ | (first | refine b1 ?_ ?_ | refine b2 ?_ ?_ | refine Br.mk ?_ ?_) <;> intro hc | exact rfl) <;> conv => whnf)
    rename_i g80
    refine LoopS.by (fun ((k, L, g97) : Nat × List Int × Nat) => ⟨[(0, .ptr 0 0 0 0), (1, vi t), (4, .ptr 80 g80 0 0), (5, .sl 97 g97 0 L.length), (6, vi k)],
        [(0, ⟨0, 2, false, false, some [drawV l a1]⟩), (80, ⟨g80, 7, false, false, some [.agg [vi 0, vi 0, vi 0, vi 0, .bool false, .str [], .lit 7 []]]⟩), (97, ⟨g97, 1, true, false, some (L.map vi)⟩)]⟩)
      (fun (k, L, g97) => 1 ≤ k ∧ k ≤ 10 ∧ L.length < k ∧ (∀ v ∈ L, varT v = t) ∧ (w < k → L ≠ [])) (fun (k, _, _) => 10 - k) (1, [], g) (by (refine ⟨?_, ?_⟩ <;> repeat' (first | exact True.intro | refine ai ?_ | refine And.intro ?_ ?_))) ⟨by simp, by simp, by simp, by simp, by intro h; omega⟩ ?_
    rintro ⟨k, L, g97⟩ ⟨hk1, hk10, hLk, hLt, hLw⟩
    try dsimp only at hk1 hk10 hLk hLt hLw
    by_cases hk : k ≤ 9
    · have hv := varT_ev k
      by_cases hvt : varT k = t
      · rw [hvt] at hv
        (conv => whnf); repeat' ((first | intro g | refine CallS.mk _ (hv) ?_ | refine st ?_ | (first | refine b1 ?_ ?_ | refine b2 ?_ ?_ | refine Br.mk ?_ ?_) <;> intro hc | exact rfl) <;> conv => whnf)
        refine NxtS.mk (k + 1, L ++ [(k : Int)], g) (by first | omega | (dsimp only; omega)) ⟨by omega, by omega, by simp; omega, ?_, by simp⟩ (by (refine ⟨?_, ?_⟩ <;> repeat' (first | exact True.intro | refine ai ?_ | refine And.intro ?_ ?_)))
        intro v hv'
        rcases List.mem_append.1 hv' with h | h
        · exact hLt v h
        · simp at h; subst h; exact hvt
      · (conv => whnf); repeat' ((first | intro g | refine CallS.mk _ (hv) ?_ | refine st ?_ | (first | refine b1 ?_ ?_ | refine b2 ?_ ?_ | refine Br.mk ?_ ?_) <;> intro hc | exact rfl) <;> conv => whnf)
        refine NxtS.mk (k + 1, L, g97) (by first | omega | (dsimp only; omega)) ⟨by omega, by omega, by omega, hLt, fun h => hLw ?_⟩ (by (refine ⟨?_, ?_⟩ <;> repeat' (first | exact True.intro | refine ai ?_ | refine And.intro ?_ ?_)))
        by_cases e : w = k
        · subst e; exact absurd hwt hvt
        · omega
    · obtain rfl : k = 10 := by omega
      have hne := hLw (by omega)
      have hpos : 0 < L.length := by
        cases L with
        | nil => exact absurd rfl hne
        | cons => simp
      have hlt := nextR_lt (l := l) (a := a1) hpos (by omega)
      have hnL := hn L.length a1 hpos (by omega)
      generalize nextA l a1 = a2 at hnL
      generalize nextR l a1 L.length = r1 at hlt hnL
      have hx : L[r1]? = some L[r1] := get_lt hlt
      have hxt := hLt L[r1] (List.getElem_mem hlt)
      generalize L[r1] = x at hx hxt
      have lmL : (L.map vi).length = L.length := List.length_map ..
      have hnL' : Ev E 85 [.mptr 2 [drawV l a1] 0 0, .int .i64 (((L.map vi).length : Nat) : Int)] ⟨vnat r1, [(0, [drawV l a2])]⟩ := by rw [lmL]; exact hnL
      have hlt' : ((r1 : Nat) : Int) < ((L.length : Nat) : Int) := by omega
      (conv => whnf); repeat' ((first | intro g | refine Wit.mk _ (map_get hx rfl) ?_ | refine CallS.mk _ (hnL) ?_ | refine CallS.mk _ (hnL') ?_ | refine st ?_ | (first | refine b1 ?_ ?_ | refine b2 ?_ ?_ | refine Br.mk ?_ ?_) <;> intro hc | exact rfl) <;> conv => whnf)
      have hm := mk_var (v := x) (by rw [hxt]; exact ht0)
      rw [hxt] at hm
      exact ⟨_, a2, hm, ⟨_, _, _, rfl⟩, by rw [leafEx_v]; rfl⟩
  · have hz' : ¬ ((r0 : Nat) : Int) = 0 := by omega
    rcases ht with rfl | rfl | rfl
    · have hlt := nextR_lt (l := l) (a := a1) (n := 11) (by decide) (by decide)
      have hn11 := hn 11 a1 (by decide) (by decide)
      generalize nextA l a1 = a2 at hn11
      generalize nextR l a1 11 = r1 at hlt hn11
      obtain ⟨x, hx, hxr⟩ : ∃ x, ([0, 1, 2, 3, 9, 32, -1, -7, 1000, 1073741824, -1073741824] : List Int)[r1]? = some x ∧ (Va.mk 1 x false []).right = true := by
        have hall : ∀ x ∈ ([0, 1, 2, 3, 9, 32, -1, -7, 1000, 1073741824, -1073741824] : List Int), (Va.mk 1 x false []).right = true := by decide
        exact ⟨_, get_lt hlt, hall _ (List.getElem_mem hlt)⟩
      have hlt' : ((r1 : Nat) : Int) < 11 := by omega
      (conv => whnf); repeat' ((first | intro g | refine Wit.mk _ (map_get hx rfl) ?_ | refine CallS.mk _ (hn2) ?_ | refine CallS.mk _ (hn11) ?_ | refine CallS.mk _ (rint_ev _) ?_ | refine st ?_ | (first | refine b1 ?_ ?_ | refine b2 ?_ ?_ | refine Br.mk ?_ ?_) <;> intro hc | exact rfl) <;> conv => whnf)
      exact ⟨_, a2, mk_const hxr (by simp), ⟨_, _, _, rfl⟩, by rw [leafEx_v]⟩
    · have hn22 := hn 2 a1 (by decide) (by decide)
      generalize nextA l a1 = a2 at hn22
      generalize nextR l a1 2 = r1 at hn22
      (conv => whnf); repeat' ((first | intro g | refine CallS.mk _ (hn2) ?_ | refine CallS.mk _ (hn22) ?_ | refine CallS.mk _ (rbool_ev _) ?_ | refine st ?_ | (first | refine b1 ?_ ?_ | refine b2 ?_ ?_ | refine Br.mk ?_ ?_) <;> intro hc | exact rfl) <;> conv => whnf)
      exact ⟨_, a2, mk_const (v := ⟨2, 0, decide (((r1 : Nat) : Int) = 1), []⟩) (by simp [Va.right]) (by simp), ⟨_, _, _, rfl⟩, by rw [leafEx_v]⟩
    · have hlt := nextR_lt (l := l) (a := a1) (n := 6) (by decide) (by decide)
      have hn6 := hn 6 a1 (by decide) (by decide)
      generalize nextA l a1 = a2 at hn6
      generalize nextR l a1 6 = r1 at hlt hn6
      obtain ⟨x, hx, hxr, hxl⟩ : ∃ x, texts6[r1]? = some x ∧ (Va.mk 3 0 false x).right = true ∧ x.length < 100 := by
        have hall : ∀ x ∈ texts6, (Va.mk 3 0 false x).right = true ∧ x.length < 100 := by decide
        exact ⟨_, get_lt hlt, hall _ (List.getElem_mem hlt)⟩
      have hlt' : ((r1 : Nat) : Int) < 6 := by omega
      (conv => whnf); repeat' ((first | intro g | refine Wit.mk _ (map_get hx rfl) ?_ | refine CallS.mk _ (hn2) ?_ | refine CallS.mk _ (hn6) ?_ | refine CallS.mk _ (rstr_ev _) ?_ | refine CallS.mk _ (texts_ev) ?_ | refine st ?_ | (first | refine b1 ?_ ?_ | refine b2 ?_ ?_ | refine Br.mk ?_ ?_) <;> intro hc | exact rfl) <;> conv => whnf)
      exact ⟨_, a2, mk_const hxr (by dsimp only; omega), ⟨_, _, _, rfl⟩, by rw [leafEx_v]⟩
end Go.AM
set_option maxRecDepth 20000
namespace Go.AM
def MR (v r : V) : Prop := ∃ a b c d x f ys, v = .agg [vi a, vi b, vi c, vi d, .bool x, .str f, .lit 7 ys] ∧ (r = .agg [vi a, vi b, vi c, vi d, .bool x, .str f, .lit 7 ys] ∨ r = .agg [vi a, vi b, vi c, vi d, .bool x, .str f, .own 7 ys])
def lessOne (d : Nat) : V := .int .i64 (IntKind.i64.wrap (((d + 1 : Nat) : Int) - 1))
theorem arm_zero {l : List Int} {d a0 a1 a2 a3 a4 ax ay az r1 r2 r3 r4 : Nat} {t : Int}
     {qz bz cz wz : Int} {oz : Bool} {fz : Str} (ez : Ev E 367 [.mptr 2 [drawV l a0] 0 0, vi t] ⟨.agg [vi qz, vi bz, vi cz, vi wz, .bool oz, .str fz, .lit 7 []], [(0, [drawV l az])]⟩) :
    Ev E 333 [.mptr 2 [drawV l a0] 0 0, vi t, vnat 0] ⟨.agg [vi qz, vi bz, vi cz, vi wz, .bool oz, .str fz, .lit 7 []], [(0, [drawV l az])]⟩ := by
  refine Ev.of_s' E_333 (X_333 _) rfl ?_
  (conv => whnf); repeat' ((first | intro g | refine CallS.mk _ (ez) ?_ | refine st ?_ | (first | refine b1 ?_ ?_ | refine b2 ?_ ?_ | refine Br.mk ?_ ?_) <;> intro hc | exact rfl) <;> conv => whnf)
theorem arm_leaf1 {l : List Int} {d a0 a1 a2 a3 a4 ax ay az r1 r2 r3 r4 : Nat} {t : Int} (hd1 : ¬ ((d + 1 : Nat) : Int) = 0)
    (n1 : Ev E 85 [.mptr 2 [drawV l a0] 0 0, vnat 5] ⟨vnat 0, [(0, [drawV l a1])]⟩)
     {qz bz cz wz : Int} {oz : Bool} {fz : Str} (ez : Ev E 367 [.mptr 2 [drawV l a1] 0 0, vi t] ⟨.agg [vi qz, vi bz, vi cz, vi wz, .bool oz, .str fz, .lit 7 []], [(0, [drawV l az])]⟩) :
    Ev E 333 [.mptr 2 [drawV l a0] 0 0, vi t, vnat (d + 1)] ⟨.agg [vi qz, vi bz, vi cz, vi wz, .bool oz, .str fz, .lit 7 []], [(0, [drawV l az])]⟩ := by
  refine Ev.of_s' E_333 (X_333 _) rfl ?_
  (conv => whnf); repeat' ((first | intro g | refine CallS.mk _ (n1) ?_ | refine CallS.mk _ (ez) ?_ | refine st ?_ | (first | refine b1 ?_ ?_ | refine b2 ?_ ?_ | refine Br.mk ?_ ?_) <;> intro hc | exact rfl) <;> conv => whnf)
theorem arm_if2 {l : List Int} {d a0 a1 a2 a3 a4 ax ay az r1 r2 r3 r4 : Nat} {t : Int} (hd1 : ¬ ((d + 1 : Nat) : Int) = 0) (z1 : ¬ ((r1 : Nat) : Int) = 0)
    (n1 : Ev E 85 [.mptr 2 [drawV l a0] 0 0, vnat 5] ⟨vnat r1, [(0, [drawV l a1])]⟩) (n2 : Ev E 85 [.mptr 2 [drawV l a1] 0 0, vnat 6] ⟨vnat 0, [(0, [drawV l a2])]⟩)
    {vx rx : V} (mx : MR vx rx) (ex : Ev E 333 [.mptr 2 [drawV l a2] 0 0, vi 2, lessOne d] ⟨rx, [(0, [drawV l ax])]⟩) {vy ry : V} (my : MR vy ry) (ey : Ev E 333 [.mptr 2 [drawV l ax] 0 0, vi t, lessOne d] ⟨ry, [(0, [drawV l ay])]⟩) {qz bz cz wz : Int} {oz : Bool} {fz : Str} (ez : Ev E 367 [.mptr 2 [drawV l ay] 0 0, vi t] ⟨.agg [vi qz, vi bz, vi cz, vi wz, .bool oz, .str fz, .lit 7 []], [(0, [drawV l az])]⟩) :
    Ev E 333 [.mptr 2 [drawV l a0] 0 0, vi t, vnat (d + 1)] ⟨.agg [vi 13, vi 0, vi 0, vi 0, .bool false, .str [], .own 7 [vx, vy, .agg [vi qz, vi bz, vi cz, vi wz, .bool oz, .str fz, .lit 7 []]]], [(0, [drawV l az])]⟩ := by
  unfold lessOne at *
  obtain ⟨qx, Bx, cx, dx, ox, gx, yx, rfl, fx⟩ := mx
  obtain ⟨qy, By, cy, dy, oy, gy, yy, rfl, fy⟩ := my
  rcases fx with rfl | rfl <;> rcases fy with rfl | rfl
  all_goals
    refine Ev.of_s' E_333 (X_333 _) rfl ?_
    (conv => whnf); repeat' ((first | intro g | refine CallS.mk _ (n1) ?_ | refine CallS.mk _ (n2) ?_ | refine CallS.mk _ (ex) ?_ | refine CallS.mk _ (ey) ?_ | refine CallS.mk _ (ez) ?_ | refine st ?_ | (first | refine b1 ?_ ?_ | refine b2 ?_ ?_ | refine Br.mk ?_ ?_) <;> intro hc | exact rfl) <;> conv => whnf)
theorem arm_if3 {l : List Int} {d a0 a1 a2 a3 a4 ax ay az r1 r2 r3 r4 : Nat}  (hd1 : ¬ ((d + 1 : Nat) : Int) = 0) (z1 : ¬ ((r1 : Nat) : Int) = 0) (z2 : ¬ ((r2 : Nat) : Int) = 0)
    (n1 : Ev E 85 [.mptr 2 [drawV l a0] 0 0, vnat 5] ⟨vnat r1, [(0, [drawV l a1])]⟩) (n2 : Ev E 85 [.mptr 2 [drawV l a1] 0 0, vnat 6] ⟨vnat r2, [(0, [drawV l a2])]⟩) (n3 : Ev E 85 [.mptr 2 [drawV l a2] 0 0, vnat 3] ⟨vnat 0, [(0, [drawV l a3])]⟩)
    {vx rx : V} (mx : MR vx rx) (ex : Ev E 333 [.mptr 2 [drawV l a3] 0 0, vi 2, lessOne d] ⟨rx, [(0, [drawV l ax])]⟩) {vy ry : V} (my : MR vy ry) (ey : Ev E 333 [.mptr 2 [drawV l ax] 0 0, vi 3, lessOne d] ⟨ry, [(0, [drawV l ay])]⟩) {qz bz cz wz : Int} {oz : Bool} {fz : Str} (ez : Ev E 367 [.mptr 2 [drawV l ay] 0 0, vi 3] ⟨.agg [vi qz, vi bz, vi cz, vi wz, .bool oz, .str fz, .lit 7 []], [(0, [drawV l az])]⟩) :
    Ev E 333 [.mptr 2 [drawV l a0] 0 0, vi 3, vnat (d + 1)] ⟨.agg [vi 13, vi 0, vi 0, vi 0, .bool false, .str [], .own 7 [vx, vy, .agg [vi qz, vi bz, vi cz, vi wz, .bool oz, .str fz, .lit 7 []]]], [(0, [drawV l az])]⟩ := by
  unfold lessOne at *
  obtain ⟨qx, Bx, cx, dx, ox, gx, yx, rfl, fx⟩ := mx
  obtain ⟨qy, By, cy, dy, oy, gy, yy, rfl, fy⟩ := my
  rcases fx with rfl | rfl <;> rcases fy with rfl | rfl
  all_goals
    refine Ev.of_s' E_333 (X_333 _) rfl ?_
    (conv => whnf); repeat' ((first | intro g | refine CallS.mk _ (n1) ?_ | refine CallS.mk _ (n2) ?_ | refine CallS.mk _ (n3) ?_ | refine CallS.mk _ (ex) ?_ | refine CallS.mk _ (ey) ?_ | refine CallS.mk _ (ez) ?_ | refine st ?_ | (first | refine b1 ?_ ?_ | refine b2 ?_ ?_ | refine Br.mk ?_ ?_) <;> intro hc | exact rfl) <;> conv => whnf)
theorem arm_leaf3 {l : List Int} {d a0 a1 a2 a3 a4 ax ay az r1 r2 r3 r4 : Nat}  (hd1 : ¬ ((d + 1 : Nat) : Int) = 0) (z1 : ¬ ((r1 : Nat) : Int) = 0) (z2 : ¬ ((r2 : Nat) : Int) = 0) (z3 : ¬ ((r3 : Nat) : Int) = 0)
    (n1 : Ev E 85 [.mptr 2 [drawV l a0] 0 0, vnat 5] ⟨vnat r1, [(0, [drawV l a1])]⟩) (n2 : Ev E 85 [.mptr 2 [drawV l a1] 0 0, vnat 6] ⟨vnat r2, [(0, [drawV l a2])]⟩) (n3 : Ev E 85 [.mptr 2 [drawV l a2] 0 0, vnat 3] ⟨vnat r3, [(0, [drawV l a3])]⟩)
     {qz bz cz wz : Int} {oz : Bool} {fz : Str} (ez : Ev E 367 [.mptr 2 [drawV l a3] 0 0, vi 3] ⟨.agg [vi qz, vi bz, vi cz, vi wz, .bool oz, .str fz, .lit 7 []], [(0, [drawV l az])]⟩) :
    Ev E 333 [.mptr 2 [drawV l a0] 0 0, vi 3, vnat (d + 1)] ⟨.agg [vi qz, vi bz, vi cz, vi wz, .bool oz, .str fz, .lit 7 []], [(0, [drawV l az])]⟩ := by
  refine Ev.of_s' E_333 (X_333 _) rfl ?_
  (conv => whnf); repeat' ((first | intro g | refine CallS.mk _ (n1) ?_ | refine CallS.mk _ (n2) ?_ | refine CallS.mk _ (n3) ?_ | refine CallS.mk _ (ez) ?_ | refine st ?_ | (first | refine b1 ?_ ?_ | refine b2 ?_ ?_ | refine Br.mk ?_ ?_) <;> intro hc | exact rfl) <;> conv => whnf)
theorem arm_num {l : List Int} {d a0 a1 a2 a3 a4 ax ay az r1 r2 r3 r4 : Nat}  (hd1 : ¬ ((d + 1 : Nat) : Int) = 0) (z1 : ¬ ((r1 : Nat) : Int) = 0) (z2 : ¬ ((r2 : Nat) : Int) = 0)
    (n1 : Ev E 85 [.mptr 2 [drawV l a0] 0 0, vnat 5] ⟨vnat r1, [(0, [drawV l a1])]⟩) (n2 : Ev E 85 [.mptr 2 [drawV l a1] 0 0, vnat 6] ⟨vnat r2, [(0, [drawV l a2])]⟩) (n3 : Ev E 85 [.mptr 2 [drawV l a2] 0 0, vnat 5] ⟨vnat r3, [(0, [drawV l a3])]⟩)
    {vx rx : V} (mx : MR vx rx) (ex : Ev E 333 [.mptr 2 [drawV l a3] 0 0, vi 1, lessOne d] ⟨rx, [(0, [drawV l ax])]⟩) {vy ry : V} (my : MR vy ry) (ey : Ev E 333 [.mptr 2 [drawV l ax] 0 0, vi 1, lessOne d] ⟨ry, [(0, [drawV l ay])]⟩)  :
    Ev E 333 [.mptr 2 [drawV l a0] 0 0, vi 1, vnat (d + 1)] ⟨.agg [.int .i64 (IntKind.i64.wrap (8 + ((r3 : Nat) : Int))), vi 0, vi 0, vi 0, .bool false, .str [], .own 7 [vx, vy]], [(0, [drawV l ay])]⟩ := by
  unfold lessOne at *
  obtain ⟨qx, Bx, cx, dx, ox, gx, yx, rfl, fx⟩ := mx
  obtain ⟨qy, By, cy, dy, oy, gy, yy, rfl, fy⟩ := my
  rcases fx with rfl | rfl <;> rcases fy with rfl | rfl
  all_goals
    refine Ev.of_s' E_333 (X_333 _) rfl ?_
    (conv => whnf); repeat' ((first | intro g | refine CallS.mk _ (n1) ?_ | refine CallS.mk _ (n2) ?_ | refine CallS.mk _ (n3) ?_ | refine CallS.mk _ (ex) ?_ | refine CallS.mk _ (ey) ?_ | refine st ?_ | (first | refine b1 ?_ ?_ | refine b2 ?_ ?_ | refine Br.mk ?_ ?_) <;> intro hc | exact rfl) <;> conv => whnf)
theorem arm_not {l : List Int} {d a0 a1 a2 a3 a4 ax ay az r1 r2 r3 r4 : Nat}  (hd1 : ¬ ((d + 1 : Nat) : Int) = 0) (z1 : ¬ ((r1 : Nat) : Int) = 0) (z2 : ¬ ((r2 : Nat) : Int) = 0)
    (n1 : Ev E 85 [.mptr 2 [drawV l a0] 0 0, vnat 5] ⟨vnat r1, [(0, [drawV l a1])]⟩) (n2 : Ev E 85 [.mptr 2 [drawV l a1] 0 0, vnat 6] ⟨vnat r2, [(0, [drawV l a2])]⟩) (n3 : Ev E 85 [.mptr 2 [drawV l a2] 0 0, vnat 6] ⟨vnat 0, [(0, [drawV l a3])]⟩)
    {vx rx : V} (mx : MR vx rx) (ex : Ev E 333 [.mptr 2 [drawV l a3] 0 0, vi 2, lessOne d] ⟨rx, [(0, [drawV l ax])]⟩)  :
    Ev E 333 [.mptr 2 [drawV l a0] 0 0, vi 2, vnat (d + 1)] ⟨.agg [vi 3, vi 0, vi 0, vi 0, .bool false, .str [], .own 7 [vx]], [(0, [drawV l ax])]⟩ := by
  unfold lessOne at *
  obtain ⟨qx, Bx, cx, dx, ox, gx, yx, rfl, fx⟩ := mx
  rcases fx with rfl | rfl
  all_goals
    refine Ev.of_s' E_333 (X_333 _) rfl ?_
    (conv => whnf); repeat' ((first | intro g | refine CallS.mk _ (n1) ?_ | refine CallS.mk _ (n2) ?_ | refine CallS.mk _ (n3) ?_ | refine CallS.mk _ (ex) ?_ | refine st ?_ | (first | refine b1 ?_ ?_ | refine b2 ?_ ?_ | refine Br.mk ?_ ?_) <;> intro hc | exact rfl) <;> conv => whnf)
theorem arm_eq {l : List Int} {d a0 a1 a2 a3 a4 ax ay az r1 r2 r3 r4 : Nat}  (hd1 : ¬ ((d + 1 : Nat) : Int) = 0) (z1 : ¬ ((r1 : Nat) : Int) = 0) (z2 : ¬ ((r2 : Nat) : Int) = 0)
    (n1 : Ev E 85 [.mptr 2 [drawV l a0] 0 0, vnat 5] ⟨vnat r1, [(0, [drawV l a1])]⟩) (n2 : Ev E 85 [.mptr 2 [drawV l a1] 0 0, vnat 6] ⟨vnat r2, [(0, [drawV l a2])]⟩) (n3 : Ev E 85 [.mptr 2 [drawV l a2] 0 0, vnat 6] ⟨vnat 1, [(0, [drawV l a3])]⟩) (n4 : Ev E 85 [.mptr 2 [drawV l a3] 0 0, vnat 3] ⟨vnat r4, [(0, [drawV l a4])]⟩)
    {vx rx : V} (mx : MR vx rx) (ex : Ev E 333 [.mptr 2 [drawV l a4] 0 0, .int .i64 (IntKind.i64.wrap (1 + ((r4 : Nat) : Int))), lessOne d] ⟨rx, [(0, [drawV l ax])]⟩) {vy ry : V} (my : MR vy ry) (ey : Ev E 333 [.mptr 2 [drawV l ax] 0 0, .int .i64 (IntKind.i64.wrap (1 + ((r4 : Nat) : Int))), lessOne d] ⟨ry, [(0, [drawV l ay])]⟩)  :
    Ev E 333 [.mptr 2 [drawV l a0] 0 0, vi 2, vnat (d + 1)] ⟨.agg [vi 6, vi 0, vi 0, vi 0, .bool false, .str [], .own 7 [vx, vy]], [(0, [drawV l ay])]⟩ := by
  unfold lessOne at *
  obtain ⟨qx, Bx, cx, dx, ox, gx, yx, rfl, fx⟩ := mx
  obtain ⟨qy, By, cy, dy, oy, gy, yy, rfl, fy⟩ := my
  rcases fx with rfl | rfl <;> rcases fy with rfl | rfl
  all_goals
    refine Ev.of_s' E_333 (X_333 _) rfl ?_
    (conv => whnf); repeat' ((first | intro g | refine CallS.mk _ (n1) ?_ | refine CallS.mk _ (n2) ?_ | refine CallS.mk _ (n3) ?_ | refine CallS.mk _ (n4) ?_ | refine CallS.mk _ (ex) ?_ | refine CallS.mk _ (ey) ?_ | refine st ?_ | (first | refine b1 ?_ ?_ | refine b2 ?_ ?_ | refine Br.mk ?_ ?_) <;> intro hc | exact rfl) <;> conv => whnf)
theorem arm_less {l : List Int} {d a0 a1 a2 a3 a4 ax ay az r1 r2 r3 r4 : Nat}  (hd1 : ¬ ((d + 1 : Nat) : Int) = 0) (z1 : ¬ ((r1 : Nat) : Int) = 0) (z2 : ¬ ((r2 : Nat) : Int) = 0)
    (n1 : Ev E 85 [.mptr 2 [drawV l a0] 0 0, vnat 5] ⟨vnat r1, [(0, [drawV l a1])]⟩) (n2 : Ev E 85 [.mptr 2 [drawV l a1] 0 0, vnat 6] ⟨vnat r2, [(0, [drawV l a2])]⟩) (n3 : Ev E 85 [.mptr 2 [drawV l a2] 0 0, vnat 6] ⟨vnat 2, [(0, [drawV l a3])]⟩)
    {vx rx : V} (mx : MR vx rx) (ex : Ev E 333 [.mptr 2 [drawV l a3] 0 0, vi 1, lessOne d] ⟨rx, [(0, [drawV l ax])]⟩) {vy ry : V} (my : MR vy ry) (ey : Ev E 333 [.mptr 2 [drawV l ax] 0 0, vi 1, lessOne d] ⟨ry, [(0, [drawV l ay])]⟩)  :
    Ev E 333 [.mptr 2 [drawV l a0] 0 0, vi 2, vnat (d + 1)] ⟨.agg [vi 7, vi 0, vi 0, vi 0, .bool false, .str [], .own 7 [vx, vy]], [(0, [drawV l ay])]⟩ := by
  unfold lessOne at *
  obtain ⟨qx, Bx, cx, dx, ox, gx, yx, rfl, fx⟩ := mx
  obtain ⟨qy, By, cy, dy, oy, gy, yy, rfl, fy⟩ := my
  rcases fx with rfl | rfl <;> rcases fy with rfl | rfl
  all_goals
    refine Ev.of_s' E_333 (X_333 _) rfl ?_
    (conv => whnf); repeat' ((first | intro g | refine CallS.mk _ (n1) ?_ | refine CallS.mk _ (n2) ?_ | refine CallS.mk _ (n3) ?_ | refine CallS.mk _ (ex) ?_ | refine CallS.mk _ (ey) ?_ | refine st ?_ | (first | refine b1 ?_ ?_ | refine b2 ?_ ?_ | refine Br.mk ?_ ?_) <;> intro hc | exact rfl) <;> conv => whnf)
theorem arm_or {l : List Int} {d a0 a1 a2 a3 a4 ax ay az r1 r2 r3 r4 : Nat}  (hd1 : ¬ ((d + 1 : Nat) : Int) = 0) (z1 : ¬ ((r1 : Nat) : Int) = 0) (z2 : ¬ ((r2 : Nat) : Int) = 0)
    (n1 : Ev E 85 [.mptr 2 [drawV l a0] 0 0, vnat 5] ⟨vnat r1, [(0, [drawV l a1])]⟩) (n2 : Ev E 85 [.mptr 2 [drawV l a1] 0 0, vnat 6] ⟨vnat r2, [(0, [drawV l a2])]⟩) (n3 : Ev E 85 [.mptr 2 [drawV l a2] 0 0, vnat 6] ⟨vnat 3, [(0, [drawV l a3])]⟩)
    {vx rx : V} (mx : MR vx rx) (ex : Ev E 333 [.mptr 2 [drawV l a3] 0 0, vi 2, lessOne d] ⟨rx, [(0, [drawV l ax])]⟩) {vy ry : V} (my : MR vy ry) (ey : Ev E 333 [.mptr 2 [drawV l ax] 0 0, vi 2, lessOne d] ⟨ry, [(0, [drawV l ay])]⟩)  :
    Ev E 333 [.mptr 2 [drawV l a0] 0 0, vi 2, vnat (d + 1)] ⟨.agg [vi 5, vi 0, vi 0, vi 0, .bool false, .str [], .own 7 [vx, vy]], [(0, [drawV l ay])]⟩ := by
  unfold lessOne at *
  obtain ⟨qx, Bx, cx, dx, ox, gx, yx, rfl, fx⟩ := mx
  obtain ⟨qy, By, cy, dy, oy, gy, yy, rfl, fy⟩ := my
  rcases fx with rfl | rfl <;> rcases fy with rfl | rfl
  all_goals
    refine Ev.of_s' E_333 (X_333 _) rfl ?_
    (conv => whnf); repeat' ((first | intro g | refine CallS.mk _ (n1) ?_ | refine CallS.mk _ (n2) ?_ | refine CallS.mk _ (n3) ?_ | refine CallS.mk _ (ex) ?_ | refine CallS.mk _ (ey) ?_ | refine st ?_ | (first | refine b1 ?_ ?_ | refine b2 ?_ ?_ | refine Br.mk ?_ ?_) <;> intro hc | exact rfl) <;> conv => whnf)
theorem arm_and {l : List Int} {d a0 a1 a2 a3 a4 ax ay az r1 r2 r3 r4 : Nat}  (hd1 : ¬ ((d + 1 : Nat) : Int) = 0) (z1 : ¬ ((r1 : Nat) : Int) = 0) (z2 : ¬ ((r2 : Nat) : Int) = 0) (w0 : ¬ ((r3 : Nat) : Int) = 0) (w1 : ¬ ((r3 : Nat) : Int) = 1) (w2 : ¬ ((r3 : Nat) : Int) = 2) (w3 : ¬ ((r3 : Nat) : Int) = 3)
    (n1 : Ev E 85 [.mptr 2 [drawV l a0] 0 0, vnat 5] ⟨vnat r1, [(0, [drawV l a1])]⟩) (n2 : Ev E 85 [.mptr 2 [drawV l a1] 0 0, vnat 6] ⟨vnat r2, [(0, [drawV l a2])]⟩) (n3 : Ev E 85 [.mptr 2 [drawV l a2] 0 0, vnat 6] ⟨vnat r3, [(0, [drawV l a3])]⟩)
    {vx rx : V} (mx : MR vx rx) (ex : Ev E 333 [.mptr 2 [drawV l a3] 0 0, vi 2, lessOne d] ⟨rx, [(0, [drawV l ax])]⟩) {vy ry : V} (my : MR vy ry) (ey : Ev E 333 [.mptr 2 [drawV l ax] 0 0, vi 2, lessOne d] ⟨ry, [(0, [drawV l ay])]⟩)  :
    Ev E 333 [.mptr 2 [drawV l a0] 0 0, vi 2, vnat (d + 1)] ⟨.agg [vi 4, vi 0, vi 0, vi 0, .bool false, .str [], .own 7 [vx, vy]], [(0, [drawV l ay])]⟩ := by
  unfold lessOne at *
  obtain ⟨qx, Bx, cx, dx, ox, gx, yx, rfl, fx⟩ := mx
  obtain ⟨qy, By, cy, dy, oy, gy, yy, rfl, fy⟩ := my
  rcases fx with rfl | rfl <;> rcases fy with rfl | rfl
  all_goals
    refine Ev.of_s' E_333 (X_333 _) rfl ?_
    (conv => whnf); repeat' ((first | intro g | refine CallS.mk _ (n1) ?_ | refine CallS.mk _ (n2) ?_ | refine CallS.mk _ (n3) ?_ | refine CallS.mk _ (ex) ?_ | refine CallS.mk _ (ey) ?_ | refine st ?_ | (first | refine b1 ?_ ?_ | refine b2 ?_ ?_ | refine Br.mk ?_ ?_) <;> intro hc | exact rfl) <;> conv => whnf)
end Go.AM
set_option maxRecDepth 20000
namespace Go.AM
def szD : Nat → Nat
  | 0 => 1
  | d + 1 => 2 + 2 * szD d
theorem szD_pos (d : Nat) : 1 ≤ szD d := by
  cases d with
  | zero => simp [szD]
  | succ d => simp [szD]; omega
theorem mk_un {n : Nat} {x : Ex} (hx : Mk 2 n x) : Mk 2 (2 + 2 * n) (.mk 3 0 zeroVa false [x]) where
  fit := .mk _ _ _ _ _ (by simp [zeroVa]) (by simpa using hx.fit)
  size := by have := hx.size; simp [Ex.size, Ex.sizes]; omega
  typ := by simp [Ex.typ, Ex.typs, headT, okHead, many, Va.zero, zeroVa, hx.typ, opT]
theorem mk_bin {n : Nat} {x y : Ex} {t1 t2 t op : Int} (hx : Mk t1 n x) (hy : Mk t2 n y) (h1 : t1 ≠ 0) (h2 : t2 ≠ 0) (hop : 4 ≤ op ∧ op ≤ 12) (ht : opT op [t1, t2] = t) : Mk t (2 + 2 * n) (.mk op 0 zeroVa false [x, y]) where
  fit := .mk _ _ _ _ _ (by simp [zeroVa]) (by intro u hu; simp at hu; rcases hu with rfl | rfl; exact hx.fit; exact hy.fit)
  size := by have := hx.size; have := hy.size; simp [Ex.size, Ex.sizes]; omega
  typ := by
    have hm : many op = 2 := by unfold many; repeat (first | rw [if_neg (by omega)] | rw [if_pos (by omega)])
    have o1 : ¬ op = 1 := by omega
    have o2 : ¬ op = 2 := by omega
    rw [Ex.typ_eq]
    have h0 : ¬ (0 ∈ [t1, t2]) := by simp; exact ⟨fun h => h1 h.symm, fun h => h2 h.symm⟩
    have hok : okHead op 0 zeroVa [x, y].length = true := by simp [okHead, hm, Va.zero, zeroVa]
    simp only [List.map_cons, List.map_nil, hx.typ, hy.typ, headT, hok, o1, o2, if_false, if_true, h0, ht]
theorem mk_if {n : Nat} {x y z : Ex} {t : Int} (hx : Mk 2 n x) (hy : Mk t n y) (hz : Mk t 1 z) (h1 : t ≠ 0) (hn : 1 ≤ n) : Mk t (2 + 2 * n) (.mk 13 0 zeroVa false [x, y, z]) where
  fit := .mk _ _ _ _ _ (by simp [zeroVa]) (by intro u hu; simp at hu; rcases hu with rfl | rfl | rfl; exact hx.fit; exact hy.fit; exact hz.fit)
  size := by have := hx.size; have := hy.size; have := hz.size; simp [Ex.size, Ex.sizes]; omega
  typ := by
    rw [Ex.typ_eq]
    have h0 : ¬ (0 ∈ [2, t, t]) := by simp; exact fun h => h1 h.symm
    have hok : okHead 13 0 zeroVa [x, y, z].length = true := by simp [okHead, many, Va.zero, zeroVa]
    simp only [List.map_cons, List.map_nil, hx.typ, hy.typ, hz.typ, headT, hok, if_true, Int.reduceEq, if_false, h0, opT, and_self]
theorem mk_mono {t : Int} {m n : Nat} {e : Ex} (h : Mk t m e) (hmn : m ≤ n) : Mk t n e := ⟨h.fit, Nat.le_trans h.size hmn, h.typ⟩
theorem leafM {l : List Int} (hl : l.length < 9223372036854775808) (a0 : Nat) {t : Int} (ht : t = 1 ∨ t = 2 ∨ t = 3) : ∃ (e : Ex) (a : Nat) (q b c w : Int) (o : Bool) (f : Str), Mk t 1 e ∧ e.v = .agg [vi q, vi b, vi c, vi w, .bool o, .str f, .lit 7 []] ∧ Ev E 367 [.mptr 2 [drawV l a0] 0 0, vi t] ⟨.agg [vi q, vi b, vi c, vi w, .bool o, .str f, .lit 7 []], [(0, [drawV l a])]⟩ := by
  obtain ⟨e, a, he, hv, h⟩ := leaf_ev hl a0 ht
  obtain ⟨op, var, val, rfl⟩ := hv
  rw [leafEx_v] at h
  exact ⟨_, a, _, _, _, _, _, _, he, leafEx_v .., h⟩
def MadeOk (l : List Int) (d : Nat) : Prop := ∀ (a0 : Nat) (t : Int), t = 1 ∨ t = 2 ∨ t = 3 → ∃ (e : Ex) (r : V) (a : Nat), Mk t (szD d) e ∧ MR e.v r ∧ Ev E 333 [.mptr 2 [drawV l a0] 0 0, vi t, vnat d] ⟨r, [(0, [drawV l a])]⟩
theorem mr_own (op : Int) (x : Ex) (l : List Ex) : MR (Ex.mk op 0 zeroVa false (x :: l)).v (.agg [vi op, vi 0, vi 0, vi 0, .bool false, .str [], .own 7 ((x :: l).map Ex.v)]) := by
  refine ⟨op, 0, 0, 0, false, [], (x :: l).map Ex.v, ?_, .inr rfl⟩
  rw [Ex.v_eq]; rfl
theorem made0 {l : List Int} (hl : l.length < 9223372036854775808) : MadeOk l 0 := by
  intro a0 t ht
  obtain ⟨e, a, q, b, c, w, o, f, he, hv, h⟩ := leafM hl a0 ht
  exact ⟨e, _, a, he, ⟨_, _, _, _, _, _, _, hv, .inl rfl⟩, arm_zero (a1 := 0) (a2 := 0) (a3 := 0) (a4 := 0) (ax := 0) (ay := 0) (r1 := 0) (r2 := 0) (r3 := 0) (r4 := 0) (d := 0) h⟩
theorem madeS {l : List Int} (hl : l.length < 9223372036854775808) {d : Nat} (hd : d < 10) (ih : MadeOk l d) : MadeOk l (d + 1) := by
  intro a0 t ht
  have hw : IntKind.i64.wrap (((d + 1 : Nat) : Int) - 1) = ((d : Nat) : Int) := (wrap64 (by omega) (by omega)).trans (by omega)
  have mk : ∀ (a0 : Nat) (t : Int), t = 1 ∨ t = 2 ∨ t = 3 → ∃ (e : Ex) (r : V) (a : Nat), Mk t (szD d) e ∧ MR e.v r ∧ Ev E 333 [.mptr 2 [drawV l a0] 0 0, vi t, lessOne d] ⟨r, [(0, [drawV l a])]⟩ := by
    have : lessOne d = vnat d := by unfold lessOne; rw [hw]
    rw [this]; exact ih
  clear ih
  have nx : ∀ n a, 0 < n → n < 1000 → ∃ r a', r < n ∧ Ev E 85 [.mptr 2 [drawV l a] 0 0, vnat n] ⟨vnat r, [(0, [drawV l a'])]⟩ := fun n a h h2 => ⟨_, _, nextR_lt h (by omega), next_ev hl n h (by omega)⟩
  have hp1 := szD_pos d
  have hsz : szD (d + 1) = 2 + 2 * szD d := rfl
  have hd1 : ¬ ((d + 1 : Nat) : Int) = 0 := by omega
  obtain ⟨r1, a1, hr1, n1⟩ := nx 5 a0 (by decide) (by decide)
  have ht0 : t ≠ 0 := by omega
  by_cases z1 : r1 = 0
  · subst z1
    obtain ⟨e, a, q, b, c, w, o, f, he, hv, h⟩ := leafM hl a1 ht
    exact ⟨e, _, a, mk_mono he (by omega), ⟨_, _, _, _, _, _, _, hv, .inl rfl⟩, arm_leaf1 (a2 := 0) (a3 := 0) (a4 := 0) (ax := 0) (ay := 0) (r1 := 0) (r2 := 0) (r3 := 0) (r4 := 0) hd1 n1 h⟩
  have z1' : ¬ ((r1 : Nat) : Int) = 0 := by omega
  obtain ⟨r2, a2, hr2, n2⟩ := nx 6 a1 (by decide) (by decide)
  by_cases z2 : r2 = 0
  · subst z2
    obtain ⟨x, rx, ax, hx, mx, ex⟩ := mk a2 2 (.inr (.inl rfl))
    obtain ⟨y, ry, ay, hy, my, ey⟩ := mk ax t ht
    obtain ⟨z, az, q, b, c, w, o, f, hz, hv, ez⟩ := leafM hl ay ht
    refine ⟨_, _, az, mk_if hx hy hz ht0 hp1, mr_own .., ?_⟩
    rw [List.map_cons, List.map_cons, List.map_cons, List.map_nil, hv]
    exact arm_if2 (a3 := 0) (a4 := 0) (r2 := 0) (r3 := 0) (r4 := 0) hd1 z1' n1 n2 mx ex my ey ez
  have z2' : ¬ ((r2 : Nat) : Int) = 0 := by omega
  rcases ht with rfl | rfl | rfl
  · obtain ⟨r3, a3, hr3, n3⟩ := nx 5 a2 (by decide) (by decide)
    obtain ⟨x, rx, ax, hx, mx, ex⟩ := mk a3 1 (.inl rfl)
    obtain ⟨y, ry, ay, hy, my, ey⟩ := mk ax 1 (.inl rfl)
    have hw8 : IntKind.i64.wrap (8 + ((r3 : Nat) : Int)) = 8 + ((r3 : Nat) : Int) := wrap64 (by omega) (by omega)
    refine ⟨_, _, ay, mk_bin (op := IntKind.i64.wrap (8 + ((r3 : Nat) : Int))) hx hy (by decide) (by decide) (by rw [hw8]; omega) ?_, mr_own .., arm_num (a4 := 0) (az := 0) (r4 := 0) hd1 z1' z2' n1 n2 n3 mx ex my ey⟩
    rw [hw8]
    simp only [opT]
    repeat (first | rw [if_neg (by omega)] | rw [if_pos (by omega)])
    all_goals simp
  · obtain ⟨r3, a3, hr3, n3⟩ := nx 6 a2 (by decide) (by decide)
    have hr3' : r3 = 0 ∨ r3 = 1 ∨ r3 = 2 ∨ r3 = 3 ∨ 4 ≤ r3 := by omega
    rcases hr3' with rfl | rfl | rfl | rfl | h4
    · obtain ⟨x, rx, ax, hx, mx, ex⟩ := mk a3 2 (.inr (.inl rfl))
      exact ⟨_, _, ax, mk_un hx, mr_own .., arm_not (a4 := 0) (ay := 0) (az := 0) (r3 := 0) (r4 := 0) hd1 z1' z2' n1 n2 n3 mx ex⟩
    · obtain ⟨r4, a4, hr4, n4⟩ := nx 3 a3 (by decide) (by decide)
      have hw1 : IntKind.i64.wrap (1 + ((r4 : Nat) : Int)) = 1 + ((r4 : Nat) : Int) := wrap64 (by omega) (by omega)
      have hu : IntKind.i64.wrap (1 + ((r4 : Nat) : Int)) = 1 ∨ IntKind.i64.wrap (1 + ((r4 : Nat) : Int)) = 2 ∨ IntKind.i64.wrap (1 + ((r4 : Nat) : Int)) = 3 := by rw [hw1]; omega
      obtain ⟨x, rx, ax, hx, mx, ex⟩ := mk a4 _ hu
      obtain ⟨y, ry, ay, hy, my, ey⟩ := mk ax _ hu
      exact ⟨_, _, ay, mk_bin (op := 6) (t := 2) hx hy (by omega) (by omega) (by decide) (by simp [opT]), mr_own .., arm_eq (az := 0) (r3 := 0) hd1 z1' z2' n1 n2 n3 n4 mx ex my ey⟩
    · obtain ⟨x, rx, ax, hx, mx, ex⟩ := mk a3 1 (.inl rfl)
      obtain ⟨y, ry, ay, hy, my, ey⟩ := mk ax 1 (.inl rfl)
      exact ⟨_, _, ay, mk_bin (op := 7) (t := 2) hx hy (by decide) (by decide) (by decide) (by simp [opT]), mr_own .., arm_less (a4 := 0) (az := 0) (r3 := 0) (r4 := 0) hd1 z1' z2' n1 n2 n3 mx ex my ey⟩
    · obtain ⟨x, rx, ax, hx, mx, ex⟩ := mk a3 2 (.inr (.inl rfl))
      obtain ⟨y, ry, ay, hy, my, ey⟩ := mk ax 2 (.inr (.inl rfl))
      exact ⟨_, _, ay, mk_bin (op := 5) (t := 2) hx hy (by decide) (by decide) (by decide) (by simp [opT]), mr_own .., arm_or (a4 := 0) (az := 0) (r3 := 0) (r4 := 0) hd1 z1' z2' n1 n2 n3 mx ex my ey⟩
    · obtain ⟨x, rx, ax, hx, mx, ex⟩ := mk a3 2 (.inr (.inl rfl))
      obtain ⟨y, ry, ay, hy, my, ey⟩ := mk ax 2 (.inr (.inl rfl))
      exact ⟨_, _, ay, mk_bin (op := 4) (t := 2) hx hy (by decide) (by decide) (by decide) (by simp [opT]), mr_own .., arm_and (a4 := 0) (az := 0) (r4 := 0) hd1 z1' z2' (by omega) (by omega) (by omega) (by omega) n1 n2 n3 mx ex my ey⟩
  · obtain ⟨r3, a3, hr3, n3⟩ := nx 3 a2 (by decide) (by decide)
    by_cases z3 : r3 = 0
    · subst z3
      obtain ⟨x, rx, ax, hx, mx, ex⟩ := mk a3 2 (.inr (.inl rfl))
      obtain ⟨y, ry, ay, hy, my, ey⟩ := mk ax 3 (.inr (.inr rfl))
      obtain ⟨z, az, q, b, c, w, o, f, hz, hv, ez⟩ := leafM hl ay (.inr (.inr rfl))
      refine ⟨_, _, az, mk_if hx hy hz ht0 hp1, mr_own .., ?_⟩
      rw [List.map_cons, List.map_cons, List.map_cons, List.map_nil, hv]
      exact arm_if3 (a4 := 0) (r3 := 0) (r4 := 0) hd1 z1' z2' n1 n2 n3 mx ex my ey ez
    · obtain ⟨e, a, q, b, c, w, o, f, he, hv, h⟩ := leafM hl a3 (.inr (.inr rfl))
      exact ⟨e, _, a, mk_mono he (by omega), ⟨_, _, _, _, _, _, _, hv, .inl rfl⟩, arm_leaf3 (a4 := 0) (ax := 0) (ay := 0) (r4 := 0) hd1 z1' z2' (by omega) n1 n2 n3 h⟩
theorem made_ev {l : List Int} (hl : l.length < 9223372036854775808) : ∀ d, d ≤ 4 → MadeOk l d
  | 0, _ => made0 hl
  | d + 1, h => madeS hl (by omega) (made_ev hl d (by omega))
set_option maxHeartbeats 1000000 in
theorem expr_ev {l : List Int} (hl : l.length < 9223372036854775808) : ∃ (e : Ex) (q b c w : Int) (o : Bool) (f : Str) (ys : List V), e.Fit ∧ e.size ≤ 46 ∧ e.typ ≠ 0 ∧ e.v = .agg [vi q, vi b, vi c, vi w, .bool o, .str f, .lit 7 ys] ∧ Ev E 313 [.lit 1 (l.map vi)] ⟨.agg [vi q, vi b, vi c, vi w, .bool o, .str f, .lit 7 ys], []⟩ := by
  have n1 := next_ev hl 3 (a := 0) (by decide) (by decide)
  have hr1 := nextR_lt (l := l) (a := 0) (n := 3) (by decide) (by decide)
  generalize nextA l 0 = a1 at n1
  generalize nextR l 0 3 = r1 at n1 hr1
  have n2 := next_ev hl 4 (a := a1) (by decide) (by decide)
  have hr2 := nextR_lt (l := l) (a := a1) (n := 4) (by decide) (by decide)
  generalize nextA l a1 = a2 at n2
  generalize nextR l a1 4 = r2 at n2 hr2
  have hw1 : IntKind.i64.wrap (1 + ((r1 : Nat) : Int)) = 1 + ((r1 : Nat) : Int) := wrap64 (by omega) (by omega)
  have hw2 : IntKind.i64.wrap (1 + ((r2 : Nat) : Int)) = ((r2 + 1 : Nat) : Int) := (wrap64 (by omega) (by omega)).trans (by omega)
  obtain ⟨e, r, a, he, hr, h⟩ := made_ev hl (r2 + 1) (by omega) a2 (IntKind.i64.wrap (1 + ((r1 : Nat) : Int))) (by rw [hw1]; omega)
  have h' : Ev E 333 [.mptr 2 [drawV l a2] 0 0, .int .i64 (IntKind.i64.wrap (1 + ((r1 : Nat) : Int))), .int .i64 (IntKind.i64.wrap (1 + ((r2 : Nat) : Int)))] ⟨r, [(0, [drawV l a])]⟩ := by rw [hw2]; exact h
  have hs : szD (r2 + 1) ≤ 46 := by
    have : r2 = 0 ∨ r2 = 1 ∨ r2 = 2 ∨ r2 = 3 := by omega
    rcases this with rfl | rfl | rfl | rfl <;> decide
  have htyp : e.typ ≠ 0 := by rw [he.typ, hw1]; omega
  obtain ⟨q, b, c, w, o, f, ys, hv, hf⟩ := hr
  have hd0 : drawV l 0 = .agg [.lit 1 (l.map vi), .int .i64 0] := rfl
  rw [hd0] at n1
  rcases hf with rfl | rfl
  · refine ⟨e, _, _, _, _, _, _, _, he.fit, Nat.le_trans he.size hs, htyp, hv, ?_⟩
    refine Ev.of_s' E_313 (X_313 _) rfl ?_
    (conv => whnf); repeat' ((first | intro g | refine CallS.mk _ (n1) ?_ | refine CallS.mk _ (n2) ?_ | refine CallS.mk _ (h') ?_ | refine st ?_ | (first | refine b1 ?_ ?_ | refine b2 ?_ ?_ | refine Br.mk ?_ ?_) <;> intro hc | exact rfl) <;> conv => whnf)
  · refine ⟨e, _, _, _, _, _, _, _, he.fit, Nat.le_trans he.size hs, htyp, hv, ?_⟩
    refine Ev.of_s' E_313 (X_313 _) rfl ?_
    (conv => whnf); repeat' ((first | intro g | refine CallS.mk _ (n1) ?_ | refine CallS.mk _ (n2) ?_ | refine CallS.mk _ (h') ?_ | refine st ?_ | (first | refine b1 ?_ ?_ | refine b2 ?_ ?_ | refine Br.mk ?_ ?_) <;> intro hc | exact rfl) <;> conv => whnf)
end Go.AM
set_option maxRecDepth 20000
namespace Go.AM
def KSmall (k : Kno) : Prop := k.texts.length ≤ 5 ∧ ∀ s ∈ k.texts, s.length < 4611686018427387904
def EnvOk (x : Envi) : Prop := x.cls.length < 100 ∧ x.name.length < 100
set_option maxHeartbeats 4000000 in
theorem env_ev {l : List Int} (hl : l.length < 9223372036854775808) : ∃ x : Envi, EnvOk x ∧ Ev E 312 [.lit 1 (l.map vi)] ⟨x.v, []⟩ := by
  have key := Ev.of_s (R := fun r => ∃ x : Envi, EnvOk x ∧ r = ⟨x.v, []⟩) E_312 (X_312 [.lit 1 (l.map vi)]) rfl ?_
  · obtain ⟨r, h1, x, h2, rfl⟩ := key
    exact ⟨x, h2, h1⟩
  have nx : ∀ n a, 0 < n → n < 1000 → ∃ r a', r < n ∧ Ev E 85 [.mptr 2 [drawV l a] 0 0, vnat n] ⟨vnat r, [(0, [drawV l a'])]⟩ := fun n a h h2 => ⟨_, _, nextR_lt h (by omega), next_ev hl n h (by omega)⟩
  have tx : ∀ r, r < 6 → ∃ s, texts6[r]? = some s ∧ s.length < 100 := fun r hr => by
    have hall : ∀ x ∈ texts6, x.length < 100 := by decide
    exact ⟨_, get_lt hr, hall _ (List.getElem_mem hr)⟩
  obtain ⟨r1, a1, hr1, n1⟩ := nx 3 0 (by decide) (by decide)
  obtain ⟨r2, a2, hr2, n2⟩ := nx 6 a1 (by decide) (by decide)
  obtain ⟨r3, a3, hr3, n3⟩ := nx 6 a2 (by decide) (by decide)
  obtain ⟨r4, a4, hr4, n4⟩ := nx 60 a3 (by decide) (by decide)
  obtain ⟨r5, a5, hr5, n5⟩ := nx 5 a4 (by decide) (by decide)
  obtain ⟨r6, a6, hr6, n6⟩ := nx 2 a5 (by decide) (by decide)
  obtain ⟨r7, a7, hr7, n7⟩ := nx 8 a6 (by decide) (by decide)
  obtain ⟨r8, a8, hr8, n8⟩ := nx 24 a7 (by decide) (by decide)
  obtain ⟨r9, a9, hr9, n9⟩ := nx 3 a8 (by decide) (by decide)
  have hd0 : drawV l 0 = .agg [.lit 1 (l.map vi), .int .i64 0] := rfl
  rw [hd0] at n1
  obtain ⟨s2, hs2, l2⟩ := tx r2 hr2
  obtain ⟨s3, hs3, l3⟩ := tx r3 hr3
  have hx7 : ∃ x : Int, ([0, 1, 9, 31, 32, 33, 500, 1024] : List Int)[r7]? = some x := ⟨_, get_lt hr7⟩
  obtain ⟨x7, hx7⟩ := hx7
  have b2 : ((r2 : Nat) : Int) < 6 := by omega
  have b3 : ((r3 : Nat) : Int) < 6 := by omega
  have b7 : ((r7 : Nat) : Int) < 8 := by omega
  (conv => whnf); repeat' ((first | intro g | refine Wit.mk _ (map_get hs2 rfl) ?_ | refine Wit.mk _ (map_get hs3 rfl) ?_ | refine Wit.mk _ (map_get hx7 rfl) ?_ | refine CallS.mk _ (n1) ?_ | refine CallS.mk _ (n2) ?_ | refine CallS.mk _ (n3) ?_ | refine CallS.mk _ (n4) ?_ | refine CallS.mk _ (n5) ?_ | refine CallS.mk _ (n6) ?_ | refine CallS.mk _ (n7) ?_ | refine CallS.mk _ (n8) ?_ | refine CallS.mk _ (n9) ?_ | refine CallS.mk _ (texts_ev) ?_ | refine st ?_ | (first | refine b1 ?_ ?_ | refine b2 ?_ ?_ | refine Br.mk ?_ ?_) <;> intro hc | exact rfl) <;> conv => whnf)
  exact ⟨⟨_, s2, s3, _, _, _, _, _, _⟩, ⟨l2, l3⟩, rfl⟩
end Go.AM
