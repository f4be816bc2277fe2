/-
  slices.SortFunc of few events: the insertion sort. Own work.
-/
import Derived.Test.YtnjbmkcbhnkggaaAmData
import Derived.Test.YtnjbmkcbhnkggaaAmExact
import Derived.KernelRfl
set_option linter.unusedSimpArgs false
namespace Go.AM

def sink {α : Type} (c : α → α → Int) : Nat → List α → List α
  | 0, l => l
  | j + 1, l => match l[j + 1]?, l[j]? with
    | some a, some b => if c a b < 0 then sink c j ((l.set (j + 1) b).set j a) else l
    | _, _ => l
def isortN {α : Type} (c : α → α → Int) : Nat → Nat → List α → List α
  | 0, _, l => l
  | n + 1, i, l => isortN c n (i + 1) (sink c i l)
def isort {α : Type} (c : α → α → Int) (l : List α) : List α := isortN c (l.length - 1) 1 l

theorem sink_length {α : Type} (c : α → α → Int) : ∀ (j : Nat) (l : List α), (sink c j l).length = l.length
  | 0, l => rfl
  | j + 1, l => by
    simp only [sink]
    split
    · split
      · rw [sink_length]; simp
      · rfl
    · rfl
theorem isortN_length {α : Type} (c : α → α → Int) : ∀ (n i : Nat) (l : List α), (isortN c n i l).length = l.length
  | 0, _, _ => rfl
  | n + 1, i, l => by simp only [isortN]; rw [isortN_length, sink_length]

/-- what holds in the inner loop -/
def SinkIn (n i : Nat) (g : Nat) (caps : List V) (j : Nat) (cur : List Event) (σ : St) : Prop :=
  σ.T 0 = .sl 0 0 0 n ∧ σ.T 1 = .int .i64 0 ∧ σ.T 2 = .int .i64 n ∧ σ.T 3 = .fn g caps ∧ σ.T 8 = .int .i64 i ∧ σ.T 9 = .int .i64 j ∧
    σ.O 0 = { gen := 0, sz := 5, arr := true, fz := false, es := some (cur.map Event.v) }

theorem insertion_ev {l : List Event} (hlen : l.length ≤ 1000000) (hne : l ≠ []) {g : Nat} {af : AFunc} {caps : List V} (hg : E.fn g = some af) (hm : af.modes = []) (hc : V.arePure caps = true) {c : Event → Event → Int}
    (hp : ∀ a b, Ev E g (a.v :: b.v :: caps) ⟨.int .i64 (c a b), []⟩) :
    Ev E 42 [.msl 5 (l.map Event.v) 0 l.length, .int .i64 0, .int .i64 l.length, .fn g caps] ⟨.tuple [], [(0, (isort c l).map Event.v)]⟩ := by
  refine Ev.of_wpc E_42 (X_42 _) rfl ?_
  rw [f42_b]
  simp only [go_sem, Nat.reduceAdd, Nat.reduceSub, Nat.reduceMul, Nat.reduceEqDiff, Nat.reduceLT, Nat.reduceLeDiff, Nat.reduceBEq, reduceCtorEq, Int.reduceToNat, Int.reduceAdd, Int.reduceSub, Int.reduceMul, Int.reduceNeg, Int.reduceLE, Int.reduceLT, Int.reduceEq, ↓reduceIte, enter]
  generalize hn : l.length = n at *
  have hn0 : 0 < n := by cases l with | nil => exact absurd rfl hne | cons x l => simp at hn; omega
  refine wpc_loop_of (fun m σ => ∃ (i : Nat) (cur : List Event), m = n - i ∧ 1 ≤ i ∧ i ≤ n ∧ cur.length = n ∧ isortN c (n - i) i cur = isort c l ∧ σ.T 0 = .sl 0 0 0 n ∧ σ.T 1 = .int .i64 0 ∧ σ.T 2 = .int .i64 n ∧ σ.T 3 = .fn g caps ∧ σ.T 8 = .int .i64 i ∧
    σ.O 0 = { gen := 0, sz := 5, arr := true, fz := false, es := some (cur.map Event.v) }) ?_ (n - 1) _ ?_
  case refine_2 => exact ⟨1, l, rfl, by omega, by omega, hn, by rw [isort, hn], by simp only [go_sem, Nat.reduceAdd, Nat.reduceSub, Nat.reduceMul, Nat.reduceEqDiff, Nat.reduceLT, Nat.reduceLeDiff, Nat.reduceBEq, reduceCtorEq, Int.reduceToNat, Int.reduceAdd, Int.reduceSub, Int.reduceMul, Int.reduceNeg, Int.reduceLE, Int.reduceLT, Int.reduceEq, ↓reduceIte], by simp only [go_sem, Nat.reduceAdd, Nat.reduceSub, Nat.reduceMul, Nat.reduceEqDiff, Nat.reduceLT, Nat.reduceLeDiff, Nat.reduceBEq, reduceCtorEq, Int.reduceToNat, Int.reduceAdd, Int.reduceSub, Int.reduceMul, Int.reduceNeg, Int.reduceLE, Int.reduceLT, Int.reduceEq, ↓reduceIte], by simp only [go_sem, Nat.reduceAdd, Nat.reduceSub, Nat.reduceMul, Nat.reduceEqDiff, Nat.reduceLT, Nat.reduceLeDiff, Nat.reduceBEq, reduceCtorEq, Int.reduceToNat, Int.reduceAdd, Int.reduceSub, Int.reduceMul, Int.reduceNeg, Int.reduceLE, Int.reduceLT, Int.reduceEq, ↓reduceIte], by simp only [go_sem, Nat.reduceAdd, Nat.reduceSub, Nat.reduceMul, Nat.reduceEqDiff, Nat.reduceLT, Nat.reduceLeDiff, Nat.reduceBEq, reduceCtorEq, Int.reduceToNat, Int.reduceAdd, Int.reduceSub, Int.reduceMul, Int.reduceNeg, Int.reduceLE, Int.reduceLT, Int.reduceEq, ↓reduceIte], by simp only [go_sem, Nat.reduceAdd, Nat.reduceSub, Nat.reduceMul, Nat.reduceEqDiff, Nat.reduceLT, Nat.reduceLeDiff, Nat.reduceBEq, reduceCtorEq, Int.reduceToNat, Int.reduceAdd, Int.reduceSub, Int.reduceMul, Int.reduceNeg, Int.reduceLE, Int.reduceLT, Int.reduceEq, ↓reduceIte], by simp only [go_sem, Nat.reduceAdd, Nat.reduceSub, Nat.reduceMul, Nat.reduceEqDiff, Nat.reduceLT, Nat.reduceLeDiff, Nat.reduceBEq, reduceCtorEq, Int.reduceToNat, Int.reduceAdd, Int.reduceSub, Int.reduceMul, Int.reduceNeg, Int.reduceLE, Int.reduceLT, Int.reduceEq, ↓reduceIte]⟩
  rintro m σ ⟨i, cur, rfl, hi1, hin, hcl, hcur, h0, h1, h2, h3, h8, hO⟩
  by_cases hlt : i < n
  · have hw := wrap64 (n := (i : Int) + 1) (by omega) (by omega)
    have hnext : ∀ (cur' : List Event), cur'.length = n → cur' = sink c i cur → isortN c (n - (i + 1)) (i + 1) cur' = isort c l := by
      intro cur' _ e
      have e1 : n - i = (n - (i + 1)) + 1 := by omega
      rw [e1, isortN] at hcur
      rw [e]; exact hcur
    simp only [go_sem, Nat.reduceAdd, Nat.reduceSub, Nat.reduceMul, Nat.reduceEqDiff, Nat.reduceLT, Nat.reduceLeDiff, Nat.reduceBEq, reduceCtorEq, Int.reduceToNat, Int.reduceAdd, Int.reduceSub, Int.reduceMul, Int.reduceNeg, Int.reduceLE, Int.reduceLT, Int.reduceEq, ↓reduceIte, h0, h1, h2, h3, h8, hlt]
    refine wpc_loop_of (fun m σ => ∃ (j : Nat) (cur' : List Event), m = j ∧ j ≤ i ∧ cur'.length = n ∧ sink c j cur' = sink c i cur ∧ SinkIn n i g caps j cur' σ) ?_ i _ ?_
    case refine_2 => exact ⟨i, cur, rfl, by omega, hcl, rfl, by simp only [go_sem, Nat.reduceAdd, Nat.reduceSub, Nat.reduceMul, Nat.reduceEqDiff, Nat.reduceLT, Nat.reduceLeDiff, Nat.reduceBEq, reduceCtorEq, Int.reduceToNat, Int.reduceAdd, Int.reduceSub, Int.reduceMul, Int.reduceNeg, Int.reduceLE, Int.reduceLT, Int.reduceEq, ↓reduceIte, h0], by simp only [go_sem, Nat.reduceAdd, Nat.reduceSub, Nat.reduceMul, Nat.reduceEqDiff, Nat.reduceLT, Nat.reduceLeDiff, Nat.reduceBEq, reduceCtorEq, Int.reduceToNat, Int.reduceAdd, Int.reduceSub, Int.reduceMul, Int.reduceNeg, Int.reduceLE, Int.reduceLT, Int.reduceEq, ↓reduceIte, h1], by simp only [go_sem, Nat.reduceAdd, Nat.reduceSub, Nat.reduceMul, Nat.reduceEqDiff, Nat.reduceLT, Nat.reduceLeDiff, Nat.reduceBEq, reduceCtorEq, Int.reduceToNat, Int.reduceAdd, Int.reduceSub, Int.reduceMul, Int.reduceNeg, Int.reduceLE, Int.reduceLT, Int.reduceEq, ↓reduceIte, h2], by simp only [go_sem, Nat.reduceAdd, Nat.reduceSub, Nat.reduceMul, Nat.reduceEqDiff, Nat.reduceLT, Nat.reduceLeDiff, Nat.reduceBEq, reduceCtorEq, Int.reduceToNat, Int.reduceAdd, Int.reduceSub, Int.reduceMul, Int.reduceNeg, Int.reduceLE, Int.reduceLT, Int.reduceEq, ↓reduceIte, h3], by simp only [go_sem, Nat.reduceAdd, Nat.reduceSub, Nat.reduceMul, Nat.reduceEqDiff, Nat.reduceLT, Nat.reduceLeDiff, Nat.reduceBEq, reduceCtorEq, Int.reduceToNat, Int.reduceAdd, Int.reduceSub, Int.reduceMul, Int.reduceNeg, Int.reduceLE, Int.reduceLT, Int.reduceEq, ↓reduceIte, h8], by simp only [go_sem, Nat.reduceAdd, Nat.reduceSub, Nat.reduceMul, Nat.reduceEqDiff, Nat.reduceLT, Nat.reduceLeDiff, Nat.reduceBEq, reduceCtorEq, Int.reduceToNat, Int.reduceAdd, Int.reduceSub, Int.reduceMul, Int.reduceNeg, Int.reduceLE, Int.reduceLT, Int.reduceEq, ↓reduceIte], by simp only [go_sem, Nat.reduceAdd, Nat.reduceSub, Nat.reduceMul, Nat.reduceEqDiff, Nat.reduceLT, Nat.reduceLeDiff, Nat.reduceBEq, reduceCtorEq, Int.reduceToNat, Int.reduceAdd, Int.reduceSub, Int.reduceMul, Int.reduceNeg, Int.reduceLE, Int.reduceLT, Int.reduceEq, ↓reduceIte, hO]⟩
    clear h0 h1 h2 h3 h8 hO σ
    rintro j σ ⟨_, cur', rfl, hji, hcl', hsink, h0, h1, h2, h3, h8, h9, hO⟩
    cases j with
    | zero =>
      simp only [sink] at hsink
      rw [wpc_seq, wpc_seq]
      refine wpc_drawn_of ?_
      simp only [go_sem, Nat.reduceAdd, Nat.reduceSub, Nat.reduceMul, Nat.reduceEqDiff, Nat.reduceLT, Nat.reduceLeDiff, Nat.reduceBEq, reduceCtorEq, Int.reduceToNat, Int.reduceAdd, Int.reduceSub, Int.reduceMul, Int.reduceNeg, Int.reduceLE, Int.reduceLT, Int.reduceEq, ↓reduceIte, h9, h1, h0, h2, h3, h8, hw]
      refine ⟨by rfl, n - (i + 1), by omega, i + 1, cur', rfl, by omega, by omega, hcl', hnext cur' hcl' hsink, rfl, hO⟩
    | succ j =>
      obtain ⟨p, hpj⟩ : ∃ p, cur'[j + 1]? = some p := ⟨_, List.getElem?_eq_getElem (by omega)⟩
      obtain ⟨q, hqj⟩ : ∃ q, cur'[j]? = some q := ⟨_, List.getElem?_eq_getElem (by omega)⟩
      have hpj' : (cur'.map Event.v)[j + 1]? = some p.v := by simp [hpj]
      have hqj' : (cur'.map Event.v)[j]? = some q.v := by simp [hqj]
      have hpos : (0 : Int) < ((j + 1 : Nat) : Int) := by omega
      have hw1 : IntKind.i64.wrap (((j + 1 : Nat) : Int) - 1) = (j : Int) := by rw [wrap64 (by omega) (by omega)]; omega
      have hjn : j + 1 < n := by omega
      have hjn' : j < n := by omega
      simp only [sink, hpj, hqj] at hsink
      rw [wpc_seq, wpc_seq]
      refine wpc_drawn_of ?_
      simp only [go_sem, Nat.reduceAdd, Nat.reduceSub, Nat.reduceMul, Nat.reduceEqDiff, Nat.reduceLT, Nat.reduceLeDiff, Nat.reduceBEq, reduceCtorEq, Int.reduceToNat, Int.reduceAdd, Int.reduceSub, Int.reduceMul, Int.reduceNeg, Int.reduceLE, Int.reduceLT, Int.reduceEq, ↓reduceIte, h9, h1, h0, h2, h3, h8, hO, hpos, hw1, hpj', hqj', hjn, hjn', Event.v, hcl', hw]
      refine wpf_pure hg hm ?_ (hp p q) ?_
      · simp [V.arePure, V.isPure, hc]
      by_cases hlt2 : c p q < 0
      · rw [if_pos hlt2] at hsink
        simp only [go_sem, Nat.reduceAdd, Nat.reduceSub, Nat.reduceMul, Nat.reduceEqDiff, Nat.reduceLT, Nat.reduceLeDiff, Nat.reduceBEq, reduceCtorEq, Int.reduceToNat, Int.reduceAdd, Int.reduceSub, Int.reduceMul, Int.reduceNeg, Int.reduceLE, Int.reduceLT, Int.reduceEq, ↓reduceIte, h9, h1, h0, h2, h3, h8, hO, hpos, hw1, hpj', hqj', hjn, hjn', Event.v, hcl', hlt2]
        refine ⟨by rfl, ?_⟩
        refine wpc_drawn_of ?_
        have hset2 : ∀ x, ((cur'.map Event.v).set (j + 1) x)[j]? = some q.v := fun x => by rw [List.getElem?_set_ne (by omega)]; exact hqj'
        have hes : ∀ x y, x = q.v → y = p.v → ((cur'.map Event.v).set (j + 1) x).set j y = ((cur'.set (j + 1) q).set j p).map Event.v := fun x y hx hy => by rw [hx, hy, List.map_set, List.map_set]
        simp only [go_sem, Nat.reduceAdd, Nat.reduceSub, Nat.reduceMul, Nat.reduceEqDiff, Nat.reduceLT, Nat.reduceLeDiff, Nat.reduceBEq, reduceCtorEq, Int.reduceToNat, Int.reduceAdd, Int.reduceSub, Int.reduceMul, Int.reduceNeg, Int.reduceLE, Int.reduceLT, Int.reduceEq, ↓reduceIte, h9, h1, h0, h2, h3, h8, hO, hpos, hw1, hpj', hqj', hjn, hjn', Event.v, hcl', hlt2, hset2]
        refine ⟨by rfl, j, by omega, j, (cur'.set (j + 1) q).set j p, rfl, by omega, by simp [hcl'], hsink, ?_⟩
        refine ⟨by simp only [go_sem, Nat.reduceAdd, Nat.reduceSub, Nat.reduceMul, Nat.reduceEqDiff, Nat.reduceLT, Nat.reduceLeDiff, Nat.reduceBEq, reduceCtorEq, Int.reduceToNat, Int.reduceAdd, Int.reduceSub, Int.reduceMul, Int.reduceNeg, Int.reduceLE, Int.reduceLT, Int.reduceEq, ↓reduceIte, h0], by simp only [go_sem, Nat.reduceAdd, Nat.reduceSub, Nat.reduceMul, Nat.reduceEqDiff, Nat.reduceLT, Nat.reduceLeDiff, Nat.reduceBEq, reduceCtorEq, Int.reduceToNat, Int.reduceAdd, Int.reduceSub, Int.reduceMul, Int.reduceNeg, Int.reduceLE, Int.reduceLT, Int.reduceEq, ↓reduceIte, h1], by simp only [go_sem, Nat.reduceAdd, Nat.reduceSub, Nat.reduceMul, Nat.reduceEqDiff, Nat.reduceLT, Nat.reduceLeDiff, Nat.reduceBEq, reduceCtorEq, Int.reduceToNat, Int.reduceAdd, Int.reduceSub, Int.reduceMul, Int.reduceNeg, Int.reduceLE, Int.reduceLT, Int.reduceEq, ↓reduceIte, h2], by simp only [go_sem, Nat.reduceAdd, Nat.reduceSub, Nat.reduceMul, Nat.reduceEqDiff, Nat.reduceLT, Nat.reduceLeDiff, Nat.reduceBEq, reduceCtorEq, Int.reduceToNat, Int.reduceAdd, Int.reduceSub, Int.reduceMul, Int.reduceNeg, Int.reduceLE, Int.reduceLT, Int.reduceEq, ↓reduceIte, h3], by simp only [go_sem, Nat.reduceAdd, Nat.reduceSub, Nat.reduceMul, Nat.reduceEqDiff, Nat.reduceLT, Nat.reduceLeDiff, Nat.reduceBEq, reduceCtorEq, Int.reduceToNat, Int.reduceAdd, Int.reduceSub, Int.reduceMul, Int.reduceNeg, Int.reduceLE, Int.reduceLT, Int.reduceEq, ↓reduceIte, h8], by simp only [go_sem, Nat.reduceAdd, Nat.reduceSub, Nat.reduceMul, Nat.reduceEqDiff, Nat.reduceLT, Nat.reduceLeDiff, Nat.reduceBEq, reduceCtorEq, Int.reduceToNat, Int.reduceAdd, Int.reduceSub, Int.reduceMul, Int.reduceNeg, Int.reduceLE, Int.reduceLT, Int.reduceEq, ↓reduceIte], ?_⟩
        simp only [go_sem, Nat.reduceAdd, Nat.reduceSub, Nat.reduceMul, Nat.reduceEqDiff, Nat.reduceLT, Nat.reduceLeDiff, Nat.reduceBEq, reduceCtorEq, Int.reduceToNat, Int.reduceAdd, Int.reduceSub, Int.reduceMul, Int.reduceNeg, Int.reduceLE, Int.reduceLT, Int.reduceEq, ↓reduceIte]
        exact congrArg (fun z => ({ gen := 0, sz := 5, arr := true, fz := false, es := some z } : Obj)) (hes _ _ rfl rfl)
      · rw [if_neg hlt2] at hsink
        simp only [go_sem, Nat.reduceAdd, Nat.reduceSub, Nat.reduceMul, Nat.reduceEqDiff, Nat.reduceLT, Nat.reduceLeDiff, Nat.reduceBEq, reduceCtorEq, Int.reduceToNat, Int.reduceAdd, Int.reduceSub, Int.reduceMul, Int.reduceNeg, Int.reduceLE, Int.reduceLT, Int.reduceEq, ↓reduceIte, h9, h1, h0, h2, h3, h8, hO, hpos, hw1, hpj', hqj', hjn, hjn', Event.v, hcl', hlt2]
        refine ⟨by rfl, n - (i + 1), by omega, i + 1, cur', rfl, by omega, by omega, hcl', hnext cur' hcl' hsink, hw.trans rfl, rfl⟩
  · obtain rfl : i = n := by omega
    simp only [Nat.sub_self, isortN] at hcur
    simp only [go_sem, Nat.reduceAdd, Nat.reduceSub, Nat.reduceMul, Nat.reduceEqDiff, Nat.reduceLT, Nat.reduceLeDiff, Nat.reduceBEq, reduceCtorEq, Int.reduceToNat, Int.reduceAdd, Int.reduceSub, Int.reduceMul, Int.reduceNeg, Int.reduceLE, Int.reduceLT, Int.reduceEq, ↓reduceIte, h0, h1, h2, h3, h8, hlt, hO, Event.pures, hcur, hc, outsOf]

theorem pdq_ev {l : List Event} (hlen : l.length ≤ 12) (hne : l ≠ []) {g : Nat} {af : AFunc} {caps : List V} (hg : E.fn g = some af) (hm : af.modes = []) (hc : V.arePure caps = true) {c : Event → Event → Int}
    (hp : ∀ a b, Ev E g (a.v :: b.v :: caps) ⟨.int .i64 (c a b), []⟩) (lim : Int) :
    Ev E 39 [.msl 5 (l.map Event.v) 0 l.length, .int .i64 0, .int .i64 l.length, .int .i64 lim, .fn g caps] ⟨.tuple [], [(0, (isort c l).map Event.v)]⟩ := by
  have hins := insertion_ev (by omega) hne hg hm hc hp
  refine Ev.of_wpc E_39 (X_39 _) rfl ?_
  rw [f39_b]
  simp only [go_sem, Nat.reduceAdd, Nat.reduceSub, Nat.reduceMul, Nat.reduceEqDiff, Nat.reduceLT, Nat.reduceLeDiff, Nat.reduceBEq, reduceCtorEq, Int.reduceToNat, Int.reduceAdd, Int.reduceSub, Int.reduceMul, Int.reduceNeg, Int.reduceLE, Int.reduceLT, Int.reduceEq, ↓reduceIte, enter]
  rw [wpc_loop]
  have hw := wrap64 (n := (l.length : Int) - 0) (by omega) (by omega)
  have h12 : ((l.length : Int) - 0) ≤ 12 := by omega
  simp only [go_sem, Nat.reduceAdd, Nat.reduceSub, Nat.reduceMul, Nat.reduceEqDiff, Nat.reduceLT, Nat.reduceLeDiff, Nat.reduceBEq, reduceCtorEq, Int.reduceToNat, Int.reduceAdd, Int.reduceSub, Int.reduceMul, Int.reduceNeg, Int.reduceLE, Int.reduceLT, Int.reduceEq, ↓reduceIte, hw, h12]
  simp only [go_sem, Nat.reduceAdd, Nat.reduceSub, Nat.reduceMul, Nat.reduceEqDiff, Nat.reduceLT, Nat.reduceLeDiff, Nat.reduceBEq, reduceCtorEq, Int.reduceToNat, Int.reduceAdd, Int.reduceSub, Int.reduceMul, Int.reduceNeg, Int.reduceLE, Int.reduceLT, Int.reduceEq, ↓reduceIte, doCall, wpa_call, wpf_call, prepare.eq_1, prepare.eq_2, prepare.eq_3, prepare.eq_4, prepare.eq_5, prepare.eq_6, prepare.eq_7, snap, snapV_pure, snapV.eq_2, snapV.eq_3, snapV.eq_4, snapV.eq_5, snapV.eq_6, snapV.eq_7, snapL.eq_1, snapL.eq_2, snapAll, E_42, f42, List.length_map, Event.pures, hc]
  refine ⟨_, hins, ?_⟩
  simp only [go_sem, Nat.reduceAdd, Nat.reduceSub, Nat.reduceMul, Nat.reduceEqDiff, Nat.reduceLT, Nat.reduceLeDiff, Nat.reduceBEq, reduceCtorEq, Int.reduceToNat, Int.reduceAdd, Int.reduceSub, Int.reduceMul, Int.reduceNeg, Int.reduceLE, Int.reduceLT, Int.reduceEq, ↓reduceIte, hc, Event.pures, outsOf, Event.scalars]

def lenK (n : Nat) : Int := if n = 0 then 0 else if n = 1 then 1 else if n < 4 then 2 else if n < 8 then 3 else 4
def isLen (r : Option Res) (k : Int) : Bool := match r with
  | some ⟨.int .i64 k', []⟩ => decide (k' = k)
  | _ => false
theorem isLen_out {r : Option Res} {k : Int} (h : isLen r k = true) : r = some ⟨.int .i64 k, []⟩ := by
  unfold isLen at h
  split at h
  · simp at h; rw [h]
  · simp at h
theorem len0 : isLen (call E 100 40 [.int .u64 0]) 0 = true := by kernel_rfl
theorem len1 : isLen (call E 100 40 [.int .u64 1]) 1 = true := by kernel_rfl
theorem len2 : isLen (call E 100 40 [.int .u64 2]) 2 = true := by kernel_rfl
theorem len3 : isLen (call E 100 40 [.int .u64 3]) 2 = true := by kernel_rfl
theorem len4 : isLen (call E 100 40 [.int .u64 4]) 3 = true := by kernel_rfl
theorem len5 : isLen (call E 100 40 [.int .u64 5]) 3 = true := by kernel_rfl
theorem len6 : isLen (call E 100 40 [.int .u64 6]) 3 = true := by kernel_rfl
theorem len7 : isLen (call E 100 40 [.int .u64 7]) 3 = true := by kernel_rfl
theorem len8 : isLen (call E 100 40 [.int .u64 8]) 4 = true := by kernel_rfl
theorem len9 : isLen (call E 100 40 [.int .u64 9]) 4 = true := by kernel_rfl
theorem len10 : isLen (call E 100 40 [.int .u64 10]) 4 = true := by kernel_rfl
theorem len11 : isLen (call E 100 40 [.int .u64 11]) 4 = true := by kernel_rfl
theorem len12 : isLen (call E 100 40 [.int .u64 12]) 4 = true := by kernel_rfl
theorem len_ev (n : Nat) (h : n ≤ 12) : Ev E 40 [.int .u64 n] ⟨.int .i64 (lenK n), []⟩ := by
  have : n = 0 ∨ n = 1 ∨ n = 2 ∨ n = 3 ∨ n = 4 ∨ n = 5 ∨ n = 6 ∨ n = 7 ∨ n = 8 ∨ n = 9 ∨ n = 10 ∨ n = 11 ∨ n = 12 := by omega
  rcases this with rfl | rfl | rfl | rfl | rfl | rfl | rfl | rfl | rfl | rfl | rfl | rfl | rfl
  · exact ⟨100, isLen_out len0⟩
  · exact ⟨100, isLen_out len1⟩
  · exact ⟨100, isLen_out len2⟩
  · exact ⟨100, isLen_out len3⟩
  · exact ⟨100, isLen_out len4⟩
  · exact ⟨100, isLen_out len5⟩
  · exact ⟨100, isLen_out len6⟩
  · exact ⟨100, isLen_out len7⟩
  · exact ⟨100, isLen_out len8⟩
  · exact ⟨100, isLen_out len9⟩
  · exact ⟨100, isLen_out len10⟩
  · exact ⟨100, isLen_out len11⟩
  · exact ⟨100, isLen_out len12⟩

theorem sortFunc_ev {l : List Event} (hlen : l.length ≤ 12) (hne : l ≠ []) {g : Nat} {af : AFunc} {caps : List V} (hg : E.fn g = some af) (hm : af.modes = []) (hc : V.arePure caps = true) {c : Event → Event → Int}
    (hp : ∀ a b, Ev E g (a.v :: b.v :: caps) ⟨.int .i64 (c a b), []⟩) :
    Ev E 25 [.msl 5 (l.map Event.v) 0 l.length, .fn g caps] ⟨.tuple [], [(0, (isort c l).map Event.v)]⟩ := by
  refine Ev.of_wpc E_25 (X_25 _) rfl ?_
  rw [f25_b]
  have hu : IntKind.u64.wrap (l.length : Int) = l.length := by
    simp [IntKind.wrap, IntKind.bits, IntKind.signed]; omega
  simp only [go_sem, Nat.reduceAdd, Nat.reduceSub, Nat.reduceMul, Nat.reduceEqDiff, Nat.reduceLT, Nat.reduceLeDiff, Nat.reduceBEq, reduceCtorEq, Int.reduceToNat, Int.reduceAdd, Int.reduceSub, Int.reduceMul, Int.reduceNeg, Int.reduceLE, Int.reduceLT, Int.reduceEq, ↓reduceIte, enter, hu]
  refine wpa_pure E_40 rfl (by rfl) (len_ev l.length hlen) ?_
  simp only [go_sem, Nat.reduceAdd, Nat.reduceSub, Nat.reduceMul, Nat.reduceEqDiff, Nat.reduceLT, Nat.reduceLeDiff, Nat.reduceBEq, reduceCtorEq, Int.reduceToNat, Int.reduceAdd, Int.reduceSub, Int.reduceMul, Int.reduceNeg, Int.reduceLE, Int.reduceLT, Int.reduceEq, ↓reduceIte]
  simp only [go_sem, Nat.reduceAdd, Nat.reduceSub, Nat.reduceMul, Nat.reduceEqDiff, Nat.reduceLT, Nat.reduceLeDiff, Nat.reduceBEq, reduceCtorEq, Int.reduceToNat, Int.reduceAdd, Int.reduceSub, Int.reduceMul, Int.reduceNeg, Int.reduceLE, Int.reduceLT, Int.reduceEq, ↓reduceIte, doCall, wpa_call, wpf_call, prepare.eq_1, prepare.eq_2, prepare.eq_3, prepare.eq_4, prepare.eq_5, prepare.eq_6, prepare.eq_7, snap, snapV_pure, snapV.eq_2, snapV.eq_3, snapV.eq_4, snapV.eq_5, snapV.eq_6, snapV.eq_7, snapL.eq_1, snapL.eq_2, snapAll, E_39, f39, List.length_map, Event.pures, hc]
  refine ⟨_, pdq_ev hlen hne hg hm hc hp _, ?_⟩
  simp only [go_sem, Nat.reduceAdd, Nat.reduceSub, Nat.reduceMul, Nat.reduceEqDiff, Nat.reduceLT, Nat.reduceLeDiff, Nat.reduceBEq, reduceCtorEq, Int.reduceToNat, Int.reduceAdd, Int.reduceSub, Int.reduceMul, Int.reduceNeg, Int.reduceLE, Int.reduceLT, Int.reduceEq, ↓reduceIte, hc, Event.pures, outsOf, Event.scalars]
end Go.AM
