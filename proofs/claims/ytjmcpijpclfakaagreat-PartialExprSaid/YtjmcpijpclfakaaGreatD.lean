/-
  Texts of the proof, joined by program: PTypA, PTypB, PTypC, PTypD. Own work.
-/
import Derived.Test.YtjmcpijpclfakaaGreatA
set_option linter.unusedSimpArgs false
set_option linter.unusedVariables false
set_option maxRecDepth 20000
namespace Go.AM
def imin (a b : Int) : Int := if b < a then b else a
def imax (a b : Int) : Int := if a < b then b else a
def lim (n : Int) : Int := imax (-1073741824) (imin n 1073741824)
theorem rlim_ev (n : Int) : Ev E 368 [vi n] ⟨vi (lim n), []⟩ := by
  refine Ev.of_s' E_368 (X_368 _) rfl ?_
  (conv => whnf); repeat' ((first | intro g | refine st ?_ | (first | refine b1 ?_ ?_ | refine b2 ?_ ?_ | refine Br.mk ?_ ?_) <;> intro hc | exact rfl) <;> conv => whnf)
theorem plim_ev (n : Int) : Ev E 418 [vi n] ⟨vi (lim n), []⟩ := by
  refine Ev.of_s' E_418 (X_418 _) rfl ?_
  (conv => whnf); repeat' ((first | intro g | refine st ?_ | (first | refine b1 ?_ ?_ | refine b2 ?_ ?_ | refine Br.mk ?_ ?_) <;> intro hc | exact rfl) <;> conv => whnf)
theorem qlim_ev (n : Int) : Ev E 428 [vi n] ⟨vi (lim n), []⟩ := by
  refine Ev.of_s' E_428 (X_428 _) rfl ?_
  (conv => whnf); repeat' ((first | intro g | refine st ?_ | (first | refine b1 ?_ ?_ | refine b2 ?_ ?_ | refine Br.mk ?_ ?_) <;> intro hc | exact rfl) <;> conv => whnf)
def varT (n : Int) : Int := if n = 1 then 1 else if n = 2 then 3 else if n = 3 then 3 else if n = 4 then 1 else if n = 5 then 1 else if n = 6 then 2 else if n = 7 then 1 else if n = 8 then 1 else if n = 9 then 1 else 0
theorem nine {n : Int} (h : ¬ (n < 1 ∨ 9 < n)) : n = 1 ∨ n = 2 ∨ n = 3 ∨ n = 4 ∨ n = 5 ∨ n = 6 ∨ n = 7 ∨ n = 8 ∨ n = 9 := by omega
theorem varT_out {n : Int} (h : n < 1 ∨ 9 < n) : varT n = 0 := by
  unfold varT
  repeat' (rw [if_neg (by omega)])
theorem varT_ev (n : Int) : Ev E 351 [vi n] ⟨vi (varT n), []⟩ := by
  by_cases h : n < 1 ∨ 9 < n
  · have e := varT_out h
    rw [e]
    refine Ev.of_s' E_351 (X_351 _) rfl ?_
    (conv => whnf); repeat' ((first | intro g | refine st ?_ | (first | refine b1 ?_ ?_ | refine b2 ?_ ?_ | refine Br.mk ?_ ?_) <;> intro hc | exact rfl) <;> conv => whnf)
    all_goals (exfalso; omega)
  · rcases nine h with rfl | rfl | rfl | rfl | rfl | rfl | rfl | rfl | rfl
    all_goals
      refine Ev.of_s' E_351 (X_351 _) rfl ?_
      (conv => whnf); repeat' ((first | intro g | refine Need.mk (by decide) ?_ | refine Need.mk (⟨by decide, by decide, rfl, rfl⟩) ?_ | refine Wit.mk _ (rfl) ?_ | refine st ?_ | (first | refine b1 ?_ ?_ | refine b2 ?_ ?_ | refine Br.mk ?_ ?_) <;> intro hc | exact rfl) <;> conv => whnf)
def many (op : Int) : Int := if op = 1 ∨ op = 2 then 0 else if op = 3 then 1 else if op = 13 then 3 else if 4 ≤ op ∧ op ≤ 12 then 2 else -1
theorem many_ev (op : Int) : Ev E 415 [vi op] ⟨vi (many op), []⟩ := by
  refine Ev.of_s' E_415 (X_415 _) rfl ?_
  unfold many
  (conv => whnf); repeat' ((first | intro g | refine st ?_ | (first | refine b1 ?_ ?_ | refine b2 ?_ ?_ | refine Br.mk ?_ ?_) <;> intro hc | exact rfl) <;> conv => whnf)
  all_goals simp [*] <;> omega
def badB (c : Int) : Bool := decide (c < 32) || decide (126 < c) || decide (c = 34)
def badS (s : Str) : Bool := s.any fun b => badB b.toNat
def zeroVa : Va := ⟨0, 0, false, []⟩
def Va.right (v : Va) : Bool :=
  if v.t = 1 then decide (-1073741824 ≤ v.n) && decide (v.n ≤ 1073741824) && !v.b && decide (v.s = [])
  else if v.t = 2 then decide (v.n = 0) && decide (v.s = [])
  else if v.t = 3 then !badS v.s && decide (v.n = 0) && !v.b && decide (v.s.length ≤ 24)
  else false
theorem isbad_ev (c : Int) : Ev E 425 [.int .i32 c] ⟨.bool (badB c), []⟩ := by
  refine Ev.of_s' E_425 (X_425 _) rfl ?_
  unfold badB
  (conv => whnf); repeat' ((first | intro g | refine st ?_ | (first | refine b1 ?_ ?_ | refine b2 ?_ ?_ | refine Br.mk ?_ ?_) <;> intro hc | exact rfl) <;> conv => whnf)
  all_goals simp [*] <;> omega
theorem rright_ev (v : Va) (hlen : v.s.length < 4611686018427387904) : Ev E 389 [v.v] ⟨.bool v.right, []⟩ := by
  obtain ⟨t, n, b, s⟩ := v
  dsimp only at hlen
  refine Ev.of_s' E_389 (X_389 _) rfl ?_
  simp only [Va.v, Va.right]
  by_cases h1 : t = 1
  · subst h1
    (conv => whnf); repeat' ((first | intro g | refine st ?_ | (first | refine b1 ?_ ?_ | refine b2 ?_ ?_ | refine Br.mk ?_ ?_) <;> intro hc | exact rfl) <;> conv => whnf)
    all_goals simp [*] <;> omega
  by_cases h2 : t = 2
  · subst h2
    (conv => whnf); repeat' ((first | intro g | refine st ?_ | (first | refine b1 ?_ ?_ | refine b2 ?_ ?_ | refine Br.mk ?_ ?_) <;> intro hc | exact rfl) <;> conv => whnf)
    all_goals simp [*] <;> omega
  by_cases h3 : t = 3
  · subst h3
    (conv => whnf); repeat' ((first | intro g | refine st ?_ | (first | refine b1 ?_ ?_ | refine b2 ?_ ?_ | refine Br.mk ?_ ?_) <;> intro hc | exact rfl) <;> conv => whnf)
    refine LoopS.by (fun i : Nat => ⟨[(1, .ptr 32 g 0 0), (3, vnat i)], [(32, ⟨g, 4, false, false, some [.agg [vi 3, vi n, .bool b, .str s]]⟩)]⟩) (fun i => i ≤ s.length ∧ ∀ (j : Nat) (y : UInt8), j < i → s[j]? = some y → badB y.toNat = false) (fun i => s.length - i) 0 ?_ ?_ ?_
    · (refine ⟨?_, ?_⟩ <;> repeat' (first | exact True.intro | refine ai ?_ | refine And.intro ?_ ?_))
    · simp
    rintro i ⟨hi, hno⟩
    by_cases hlt : i < s.length
    · have hx : s[i]? = some s[i] := get_lt hlt
      generalize s[i] = x at hx
      have hbad : badB x.toNat = true → badS s = true := fun h => List.any_eq_true.2 ⟨x, List.mem_of_getElem? hx, h⟩
      have hgood : badB x.toNat = false → ∀ (j : Nat) (y : UInt8), j < i + 1 → s[j]? = some y → badB y.toNat = false := fun h j y hj hy => by
        by_cases e : j = i
        · subst e
          rw [hx] at hy; injection hy with hy; subst hy; exact h
        · exact hno j y (by omega) hy
      (conv => whnf); repeat' ((first | intro g | refine Wit.mk _ (hx) ?_ | refine st ?_ | (first | refine b1 ?_ ?_ | refine b2 ?_ ?_ | refine Br.mk ?_ ?_) <;> intro hc | exact rfl) <;> conv => whnf)
      · simp [hbad (by simp [badB, *])]
      · simp [hbad (by simp [badB, *])]
      · simp [hbad (by simp [badB, *])]
      · exact NxtS.mk (i + 1) (by first | omega | (dsimp only; omega)) ⟨by omega, hgood (by simp [badB, *] <;> omega)⟩ (by (refine ⟨?_, ?_⟩ <;> repeat' (first | exact True.intro | refine ai ?_ | refine And.intro ?_ ?_)))
    · have hb : badS s = false := by
        rw [badS, List.any_eq_false]
        intro y hy
        obtain ⟨j, hj⟩ := List.mem_iff_getElem?.1 hy
        simp [hno j y (by have := (List.getElem?_eq_some_iff.1 hj).1; omega) hj]
      (conv => whnf); repeat' ((first | intro g | refine st ?_ | (first | refine b1 ?_ ?_ | refine b2 ?_ ?_ | refine Br.mk ?_ ?_) <;> intro hc | exact rfl) <;> conv => whnf)
      · cases b <;> simp_all <;> omega
      · cases b <;> simp_all
      · simp [*]
  · (conv => whnf); repeat' ((first | intro g | refine st ?_ | (first | refine b1 ?_ ?_ | refine b2 ?_ ?_ | refine Br.mk ?_ ?_) <;> intro hc | exact rfl) <;> conv => whnf)
    all_goals simp [*]
end Go.AM
set_option maxRecDepth 20000
namespace Go.AM
theorem byte_get {s : Str} {i : Nat} {b : UInt8} (h : s[i]? = some b) : (ByteArray.mk s.toArray).get! (i + 0) = b := by
  obtain ⟨hl, rfl⟩ := List.getElem?_eq_some_iff.1 h
  simp [ByteArray.get!, hl]
theorem decode_lt {s : Str} {i : Nat} {b : UInt8} (h : s[i]? = some b) (hb : b.toNat < 128) : Utf8.decode ⟨s.toArray⟩ i = (b.toNat, 1) := by
  unfold Utf8.decode
  simp only [byte_get h]
  rw [if_pos hb]
theorem decode_ge {s : Str} {i : Nat} {b : UInt8} (h : s[i]? = some b) (hb : ¬ b.toNat < 128) : 128 ≤ (Utf8.decode ⟨s.toArray⟩ i).1 := by
  unfold Utf8.decode
  simp only [byte_get h]
  rw [if_neg hb]
  have hr : 128 ≤ Utf8.runeError := by decide
  split
  · split <;> first | exact hr | omega
  split
  · split
    · rename_i hc
      simp only [Bool.and_eq_true, decide_eq_true_eq] at hc
      dsimp only; omega
    · exact hr
  split
  · split
    · rename_i hc
      simp only [Bool.and_eq_true, decide_eq_true_eq] at hc
      dsimp only; omega
    · exact hr
  exact hr
def badI (s : Str) : Int := firstIdx (fun b : UInt8 => badB b.toNat) s
theorem sindex_ev (s : Str) (hlen : s.length < 4611686018427387904) : Ev E 437 [.str s, .fn 425 [], .bool true] ⟨vi (badI s), []⟩ := by
  refine Ev.of_s' E_437 (X_437 _) rfl ?_
  (conv => whnf); repeat' ((first | intro g | refine st ?_ | (first | refine b1 ?_ ?_ | refine b2 ?_ ?_ | refine Br.mk ?_ ?_) <;> intro hc | exact rfl) <;> conv => whnf)
  refine LoopS.by (fun i : Nat => ⟨[(1, .fn 425 []), (2, .bool true), (10, .it 176 g)], [(176, ⟨g, 0, false, false, some [.str s, .int .i64 (i : Int)]⟩)]⟩) (fun i => i ≤ s.length ∧ ∀ (j : Nat) (y : UInt8), j < i → s[j]? = some y → badB y.toNat = false) (fun i => s.length - i) 0 ?_ ?_ ?_
  · (refine ⟨?_, ?_⟩ <;> repeat' (first | exact True.intro | refine ai ?_ | refine And.intro ?_ ?_))
  · simp
  rintro i ⟨hi, hno⟩
  by_cases hlt : i < s.length
  · have hx : s[i]? = some s[i] := get_lt hlt
    generalize s[i] = x at hx
    by_cases hb : x.toNat < 128
    · have hd := decode_lt hx hb
      have hd1 : (Utf8.decode ⟨s.toArray⟩ i).1 = x.toNat := by rw [hd]
      have hd2 : (Utf8.decode ⟨s.toArray⟩ i).2 = 1 := by rw [hd]
      have hev : Ev E 425 [.int .i32 (((Utf8.decode ⟨s.toArray⟩ i).1 : Nat) : Int)] ⟨.bool (badB x.toNat), []⟩ := by rw [hd1]; exact isbad_ev _
      cases hbad : badB x.toNat with
      | true =>
        rw [hbad] at hev
        have hf : badI s = (i : Int) := firstIdx_found hno hx hbad
        (conv => whnf); repeat' ((first | intro g | refine CallS.mk _ (hev) ?_ | refine st ?_ | (first | refine b1 ?_ ?_ | refine b2 ?_ ?_ | refine Br.mk ?_ ?_) <;> intro hc | exact rfl) <;> conv => whnf)
        simp [hf]
      | false =>
        rw [hbad] at hev
        have hgood : ∀ (j : Nat) (y : UInt8), j < i + 1 → s[j]? = some y → badB y.toNat = false := fun j y hj hy => by
          by_cases e : j = i
          · subst e
            rw [hx] at hy; injection hy with hy; subst hy; exact hbad
          · exact hno j y (by omega) hy
        (conv => whnf); repeat' ((first | intro g | refine CallS.mk _ (hev) ?_ | refine st ?_ | (first | refine b1 ?_ ?_ | refine b2 ?_ ?_ | refine Br.mk ?_ ?_) <;> intro hc | exact rfl) <;> conv => whnf)
        simp only [Int.toNat_natCast, hd2]
        exact NxtS.mk (i + 1) (by first | omega | (dsimp only; omega)) ⟨by omega, hgood⟩ (by (refine ⟨?_, ?_⟩ <;> repeat' (first | exact True.intro | refine ai ?_ | refine And.intro ?_ ?_)))
    · have hd := decode_ge hx hb
      have hbad : badB x.toNat = true := by simp [badB]; omega
      have hev : Ev E 425 [.int .i32 (((Utf8.decode ⟨s.toArray⟩ i).1 : Nat) : Int)] ⟨.bool true, []⟩ := by
        have : badB (((Utf8.decode ⟨s.toArray⟩ i).1 : Nat) : Int) = true := by simp [badB]; omega
        rw [← this]; exact isbad_ev _
      have hf : badI s = (i : Int) := firstIdx_found hno hx hbad
      (conv => whnf); repeat' ((first | intro g | refine CallS.mk _ (hev) ?_ | refine st ?_ | (first | refine b1 ?_ ?_ | refine b2 ?_ ?_ | refine Br.mk ?_ ?_) <;> intro hc | exact rfl) <;> conv => whnf)
      simp [hf]
  · have hf : badI s = -1 := firstIdx_none fun j y hy => hno j y (by have := (List.getElem?_eq_some_iff.1 hy).1; omega) hy
    (conv => whnf); repeat' ((first | intro g | refine st ?_ | (first | refine b1 ?_ ?_ | refine b2 ?_ ?_ | refine Br.mk ?_ ?_) <;> intro hc | exact rfl) <;> conv => whnf)
    simp [hf]
theorem badI_neg (s : Str) : decide (badI s < 0) = !badS s := by
  have h := any_firstIdx (fun b : UInt8 => badB b.toNat) s
  rw [badS, h, badI]
  by_cases h0 : 0 ≤ firstIdx (fun b : UInt8 => badB b.toNat) s
  · rw [decide_eq_true h0, decide_eq_false (by omega)]; rfl
  · rw [decide_eq_false h0, decide_eq_true (by omega)]; rfl
theorem indexf_ev (s : Str) (hlen : s.length < 4611686018427387904) : Ev E 424 [.str s, .fn 425 []] ⟨vi (badI s), []⟩ := by
  have h := sindex_ev s hlen
  refine Ev.of_s' E_424 (X_424 _) rfl ?_
  (conv => whnf); repeat' ((first | intro g | refine CallS.mk _ (h) ?_ | refine st ?_ | (first | refine b1 ?_ ?_ | refine b2 ?_ ?_ | refine Br.mk ?_ ?_) <;> intro hc | exact rfl) <;> conv => whnf)
def Va.ifc (v : Va) : V := if v.right then (if v.t = 1 then .iface 3 (vi v.n) else if v.t = 2 then .iface 4 (.bool v.b) else .iface 9 (.str v.s)) else .nili
theorem wrapI_ev (n : Int) : Ev E 391 [.iface 3 (vi n)] ⟨(Va.mk 1 n false []).v, []⟩ := by
  refine Ev.of_s' E_391 (X_391 _) rfl ?_
  (conv => whnf); repeat' ((first | intro g | refine st ?_ | (first | refine b1 ?_ ?_ | refine b2 ?_ ?_ | refine Br.mk ?_ ?_) <;> intro hc | exact rfl) <;> conv => whnf)
theorem wrapB_ev (b : Bool) : Ev E 391 [.iface 4 (.bool b)] ⟨(Va.mk 2 0 b []).v, []⟩ := by
  refine Ev.of_s' E_391 (X_391 _) rfl ?_
  (conv => whnf); repeat' ((first | intro g | refine st ?_ | (first | refine b1 ?_ ?_ | refine b2 ?_ ?_ | refine Br.mk ?_ ?_) <;> intro hc | exact rfl) <;> conv => whnf)
theorem wrapS_ev (s : Str) : Ev E 391 [.iface 9 (.str s)] ⟨(Va.mk 3 0 false s).v, []⟩ := by
  refine Ev.of_s' E_391 (X_391 _) rfl ?_
  (conv => whnf); repeat' ((first | intro g | refine st ?_ | (first | refine b1 ?_ ?_ | refine b2 ?_ ?_ | refine Br.mk ?_ ?_) <;> intro hc | exact rfl) <;> conv => whnf)
theorem wrapN_ev : Ev E 391 [.nili] ⟨zeroVa.v, []⟩ := by
  refine Ev.of_s' E_391 (X_391 _) rfl ?_
  (conv => whnf); repeat' ((first | intro g | refine st ?_ | (first | refine b1 ?_ ?_ | refine b2 ?_ ?_ | refine Br.mk ?_ ?_) <;> intro hc | exact rfl) <;> conv => whnf)
theorem lim_id {n : Int} : n = lim n ↔ -1073741824 ≤ n ∧ n ≤ 1073741824 := by
  unfold lim imax imin
  split <;> split <;> omega
theorem unwrap_ev (v : Va) (hlen : v.s.length < 4611686018427387904) : Ev E 404 [v.v] ⟨v.ifc, []⟩ := by
  obtain ⟨t, n, b, s⟩ := v
  dsimp only at hlen
  have hl := plim_ev n
  have hs := indexf_ev s hlen
  have hsn := badI_neg s
  have hli := @lim_id n
  have e1 : (0 == n) = decide (n = 0) := by rw [Bool.eq_iff_iff]; simp; omega
  clear hlen
  refine Ev.of_s' E_404 (X_404 _) rfl ?_
  simp only [Va.v, Va.ifc, Va.right]
  by_cases h1 : t = 1
  · subst h1
    (conv => whnf); repeat' ((first | intro g | refine CallS.mk _ (hl) ?_ | refine CallS.mk _ (wrapI_ev n) ?_ | refine CallS.mk _ (wrapN_ev) ?_ | refine st ?_ | (first | refine b1 ?_ ?_ | refine b2 ?_ ?_ | refine Br.mk ?_ ?_) <;> intro hc | exact rfl) <;> conv => whnf)
    all_goals (clear e1 hsn hl hs; rw [hli] at *; cases b <;> cases s <;> simp_all <;> omega)
  by_cases h2 : t = 2
  · subst h2
    (conv => whnf); repeat' ((first | intro g | refine CallS.mk _ (wrapB_ev b) ?_ | refine st ?_ | (first | refine b1 ?_ ?_ | refine b2 ?_ ?_ | refine Br.mk ?_ ?_) <;> intro hc | exact rfl) <;> conv => whnf)
    all_goals (clear hsn hli hl hs; rw [e1] at *; clear e1; by_cases hn0 : n = 0 <;> cases s <;> simp_all)
  by_cases h3 : t = 3
  · subst h3
    (conv => whnf); repeat' ((first | intro g | refine CallS.mk _ (hs) ?_ | refine CallS.mk _ (wrapS_ev s) ?_ | refine CallS.mk _ (wrapN_ev) ?_ | refine st ?_ | (first | refine b1 ?_ ?_ | refine b2 ?_ ?_ | refine Br.mk ?_ ?_) <;> intro hc | exact rfl) <;> conv => whnf)
    all_goals (clear hli hl hs; simp only [e1] at *; clear e1; by_cases hn0 : n = 0 <;> cases b <;> cases hb : badS s <;> simp_all <;> omega)
  · (conv => whnf); repeat' ((first | intro g | refine CallS.mk _ (wrapN_ev) ?_ | refine st ?_ | (first | refine b1 ?_ ?_ | refine b2 ?_ ?_ | refine Br.mk ?_ ?_) <;> intro hc | exact rfl) <;> conv => whnf)
    all_goals simp [h1, h2, h3]
end Go.AM
set_option maxRecDepth 20000
namespace Go.AM
structure Envi where
  kind : Int
  cls : Str
  name : Str
  weight : Int
  level : Int
  stairs : Bool
  scale : Int
  hour : Int
  reader : Int
def Envi.v (x : Envi) : V := .agg [vi x.kind, .str x.cls, .str x.name, vi x.weight, vi x.level, .bool x.stairs, vi x.scale, vi x.hour, vi x.reader]
def Envi.val (x : Envi) (n : Int) : Va :=
  if n = 1 then ⟨1, lim x.kind, false, []⟩ else if n = 2 then ⟨3, 0, false, x.cls⟩ else if n = 3 then ⟨3, 0, false, x.name⟩
  else if n = 4 then ⟨1, lim x.weight, false, []⟩ else if n = 5 then ⟨1, lim x.level, false, []⟩ else if n = 6 then ⟨2, 0, x.stairs, []⟩
  else if n = 7 then ⟨1, lim x.scale, false, []⟩ else if n = 8 then ⟨1, lim x.hour, false, []⟩ else if n = 9 then ⟨1, lim x.reader, false, []⟩ else zeroVa
def vifc (v : Va) : V := if v.t = 1 then .iface 3 (vi v.n) else if v.t = 2 then .iface 4 (.bool v.b) else if v.t = 3 then .iface 9 (.str v.s) else .nili
theorem val_out (x : Envi) {n : Int} (h : n < 1 ∨ 9 < n) : x.val n = zeroVa := by
  unfold Envi.val
  repeat' (rw [if_neg (by omega)])
theorem val_t (x : Envi) (n : Int) : (x.val n).t = varT n := by
  unfold Envi.val varT
  repeat' split
  all_goals rfl
theorem variable_ev (x : Envi) (n : Int) : Ev E 405 [x.v, vi n] ⟨vifc (x.val n), []⟩ := by
  by_cases h : n < 1 ∨ 9 < n
  · rw [val_out x h]
    refine Ev.of_s' E_405 (X_405 _) rfl ?_
    simp only [Envi.v]
    (conv => whnf); repeat' ((first | intro g | refine st ?_ | (first | refine b1 ?_ ?_ | refine b2 ?_ ?_ | refine Br.mk ?_ ?_) <;> intro hc | exact rfl) <;> conv => whnf)
    all_goals (exfalso; omega)
  · rcases nine h with rfl | rfl | rfl | rfl | rfl | rfl | rfl | rfl | rfl
    all_goals
      refine Ev.of_s' E_405 (X_405 _) rfl ?_
      simp only [Envi.v]
      (conv => whnf); repeat' ((first | intro g | refine CallS.mk _ (plim_ev _) ?_ | refine st ?_ | (first | refine b1 ?_ ?_ | refine b2 ?_ ?_ | refine Br.mk ?_ ?_) <;> intro hc | exact rfl) <;> conv => whnf)
theorem rvar_ev (x : Envi) {n : Int} (h : ¬ (n < 1 ∨ 9 < n)) : Ev E 337 [x.v, vi n] ⟨(x.val n).v, []⟩ := by
  rcases nine h with rfl | rfl | rfl | rfl | rfl | rfl | rfl | rfl | rfl
  all_goals
    refine Ev.of_s' E_337 (X_337 _) rfl ?_
    simp only [Envi.v]
    (conv => whnf); repeat' ((first | intro g | refine CallS.mk _ (rlim_ev _) ?_ | refine CallS.mk _ (rint_ev _) ?_ | refine CallS.mk _ (rstr_ev _) ?_ | refine CallS.mk _ (rbool_ev _) ?_ | refine st ?_ | (first | refine b1 ?_ ?_ | refine b2 ?_ ?_ | refine Br.mk ?_ ?_) <;> intro hc | exact rfl) <;> conv => whnf)
theorem wrapV_ev (x : Envi) (n : Int) : Ev E 391 [vifc (x.val n)] ⟨(x.val n).v, []⟩ := by
  by_cases h : n < 1 ∨ 9 < n
  · rw [val_out x h]; exact wrapN_ev
  · rcases nine h with rfl | rfl | rfl | rfl | rfl | rfl | rfl | rfl | rfl
    · exact wrapI_ev _
    · exact wrapS_ev _
    · exact wrapS_ev _
    · exact wrapI_ev _
    · exact wrapI_ev _
    · exact wrapB_ev _
    · exact wrapI_ev _
    · exact wrapI_ev _
    · exact wrapI_ev _
theorem wrapU_ev (v : Va) : Ev E 391 [v.ifc] ⟨(if v.right then v else zeroVa).v, []⟩ := by
  unfold Va.ifc
  by_cases h : v.right = true
  · simp only [h, if_true]
    obtain ⟨t, n, b, s⟩ := v
    unfold Va.right at h
    dsimp only at h ⊢
    by_cases h1 : t = 1
    · subst h1
      simp only [if_true, Bool.and_eq_true, Bool.not_eq_true', decide_eq_true_eq] at h ⊢
      obtain ⟨⟨_, rfl⟩, rfl⟩ := h
      exact wrapI_ev _
    by_cases h2 : t = 2
    · subst h2
      simp only [if_true, reduceCtorEq, Int.reduceEq, if_false, Bool.and_eq_true, Bool.not_eq_true', decide_eq_true_eq] at h ⊢
      obtain ⟨rfl, rfl⟩ := h
      exact wrapB_ev _
    by_cases h3 : t = 3
    · subst h3
      simp only [if_true, reduceCtorEq, Int.reduceEq, if_false, Bool.and_eq_true, Bool.not_eq_true', decide_eq_true_eq] at h ⊢
      obtain ⟨⟨⟨_, rfl⟩, rfl⟩, _⟩ := h
      exact wrapS_ev _
    · simp [h1, h2, h3] at h
  · simp only [h]
    exact wrapN_ev
def c3l : Nat → Int → Int → Int → List V
  | 0, _, _, _ => []
  | 1, x, _, _ => [vi x]
  | 2, x, y, _ => [vi x, vi y]
  | _ + 3, x, y, z => [vi x, vi y, vi z]
def clsOf (op : Int) : Int := if op = 1 ∨ op = 2 then 0 else if op = 3 then 1 else if op = 4 ∨ op = 5 then 1 else if op = 6 then 2 else if op = 7 then 3 else if 8 ≤ op ∧ op ≤ 12 then 4 else if op = 13 then 5 else 0
theorem class_ev (op : Int) : Ev E 401 [vi op] ⟨.tuple [vi (clsOf op), vi (many op)], []⟩ := by
  refine Ev.of_s' E_401 (X_401 _) rfl ?_
  unfold clsOf many
  (conv => whnf); repeat' ((first | intro g | refine st ?_ | (first | refine b1 ?_ ?_ | refine b2 ?_ ?_ | refine Br.mk ?_ ?_) <;> intro hc | exact rfl) <;> conv => whnf)
  all_goals simp [*] <;> omega
theorem tne_ev (u t : Int) : Ev E 403 [vi u, .eptr (vi t) 0] ⟨.bool (decide (u ≠ t)), []⟩ := by
  refine Ev.of_s' E_403 (X_403 _) rfl ?_
  (conv => whnf); repeat' ((first | intro g | refine st ?_ | (first | refine b1 ?_ ?_ | refine b2 ?_ ?_ | refine Br.mk ?_ ?_) <;> intro hc | exact rfl) <;> conv => whnf)
  all_goals simp
theorem tall_ev (t : Int) {l : List Int} {sv : V} (hs : IsS 1 (l.map vi) sv) (hlen : l.length < 4611686018427387904) : Ev E 402 [vi t, .eptr sv 0] ⟨.bool (!l.any fun u => decide (u ≠ t)), []⟩ := by
  have h := pcont_int hs (g := 403) (caps := [.eptr (vi t) 0]) rfl hlen (p := fun u => decide (u ≠ t)) (fun x _ => tne_ev x t) rfl
  refine Ev.of_s' E_402 (X_402 _) rfl ?_
  rcases hs with rfl | ⟨h0, rfl⟩
  all_goals (conv => whnf); repeat' ((first | intro g | refine CallS.mk _ (h) ?_ | refine st ?_ | (first | refine b1 ?_ ?_ | refine b2 ?_ ?_ | refine Br.mk ?_ ?_) <;> intro hc | exact rfl) <;> conv => whnf)
end Go.AM
set_option maxRecDepth 20000
namespace Go.AM
def opT (op : Int) : List Int → Int
  | [a] => if a = 2 then 2 else 0
  | [a, b] => if op = 4 ∨ op = 5 then (if a = 2 ∧ b = 2 then 2 else 0) else if op = 6 then (if a = b then 2 else 0) else if op = 7 then (if a = 1 ∧ b = 1 then 2 else 0) else (if a = 1 ∧ b = 1 then 1 else 0)
  | [a, b, c] => if a = 2 ∧ b = c then b else 0
  | _ => 0
def Va.zero (v : Va) : Bool := decide (v.t = 0) && decide (v.n = 0) && !v.b && decide (v.s = [])
def okHead (op var : Int) (val : Va) (n : Nat) : Bool := decide (many op = (n : Int)) && (decide (op = 1) || val.zero) && (decide (op = 2) || decide (var = 0))
def headT (op var : Int) (val : Va) (n : Nat) (ts : List Int) : Int :=
  if okHead op var val n = true then
    if op = 1 then (if val.right then val.t else 0)
    else if op = 2 then varT var
    else if 0 ∈ ts then 0 else opT op ts
  else 0
mutual
def Ex.typ : Ex → Int
  | .mk op var val nl l => headT op var val l.length (Ex.typs l)
def Ex.typs : List Ex → List Int
  | [] => []
  | e :: l => e.typ :: Ex.typs l
end
theorem Ex.typs_eq : ∀ l : List Ex, Ex.typs l = l.map Ex.typ
  | [] => by simp [Ex.typs]
  | e :: l => by simp [Ex.typs, Ex.typs_eq l]
theorem Ex.typ_eq (op var : Int) (val : Va) (nl : Bool) (l : List Ex) : (Ex.mk op var val nl l).typ = headT op var val l.length (l.map Ex.typ) := by
  simp only [Ex.typ, Ex.typs_eq]
inductive Ex.Fit : Ex → Prop where
  | mk (op var : Int) (val : Va) (nl : Bool) (l : List Ex) : val.s.length < 4611686018427387904 → (∀ x ∈ l, x.Fit) → Ex.Fit (.mk op var val nl l)
theorem Ex.Fit.val {op var : Int} {val : Va} {nl : Bool} {l : List Ex} (h : (Ex.mk op var val nl l).Fit) : val.s.length < 4611686018427387904 := by
  cases h; assumption
theorem Ex.Fit.mem {op var : Int} {val : Va} {nl : Bool} {l : List Ex} (h : (Ex.mk op var val nl l).Fit) : ∀ x ∈ l, x.Fit := by
  cases h; assumption
theorem Ex.form2 (x : Ex) : ∃ a b c d e f L, x.v = .agg [vi a, vi b, vi c, vi d, .bool e, .str f, L] ∧ V.isPure L = true ∧ V.arePure [.agg [vi a, vi b, vi c, vi d, .bool e, .str f, L]] = true := by
  have h := x.pure
  obtain ⟨op, var, val, nl, l⟩ := x
  rw [Ex.v_eq] at h
  refine ⟨_, _, _, _, _, _, _, Ex.v_eq .., ?_, ?_⟩
  · simpa [V.isPure, V.arePure] using h
  · simp only [V.arePure, h, Bool.and_true]
def c3 : Nat → Int → Int → Int → List V
  | 0, _, _, _ => [vi 0, vi 0, vi 0]
  | 1, x, _, _ => [vi x, vi 0, vi 0]
  | 2, x, y, _ => [vi x, vi y, vi 0]
  | _ + 3, x, y, z => [vi x, vi y, vi z]
theorem lv_cons (nl : Bool) (x : V) (xs : List V) : lv nl (x :: xs) = .lit 7 (x :: xs) := rfl
theorem zero_iff {v : Va} : v.zero = true ↔ v = zeroVa := by
  obtain ⟨t, n, b, s⟩ := v
  simp [Va.zero, zeroVa]
  constructor
  · rintro ⟨⟨⟨rfl, rfl⟩, rfl⟩, rfl⟩; exact ⟨rfl, rfl, rfl, rfl⟩
  · rintro ⟨rfl, rfl, rfl, rfl⟩; exact ⟨⟨⟨rfl, rfl⟩, rfl⟩, rfl⟩
end Go.AM
