/-
  Texts of the proof, joined by program: PBdA, PBdB. Own work.
-/
import Derived.Test.YtjmcpijpclfakaaGreatD
set_option linter.unusedSimpArgs false
set_option linter.unusedVariables false
set_option maxRecDepth 20000
namespace Go.AM
structure Bd where
  lo : Int
  hi : Int
  nl : Bool
  ws : List Str
  some : Bool
  text : Bool
def Bd.v (b : Bd) : V := .agg [vi b.lo, vi b.hi, slS b.nl b.ws, .bool b.some, .bool b.text]
def nb (lo hi : Int) : Bd := ⟨lo, hi, false, [], false, false⟩
theorem slS_false (ws : List Str) : slS false ws = .lit 1 (ws.map V.str) := by
  cases ws <;> rfl
theorem Bd.pure (b : Bd) : V.isPure b.v = true := by
  simp only [Bd.v, V.isPure, V.arePure, slS_pure]; rfl
def BdRes (b : Bd) (v : V) : Prop := v = b.v ∨ slS b.nl b.ws = .lit 1 (b.ws.map V.str) ∧ v = .agg [vi b.lo, vi b.hi, .own 1 (b.ws.map V.str), .bool b.some, .bool b.text]
theorem BdRes.imp {b : Bd} {v : V} (h : BdRes b v) (r : Nat) (k : V → Act2) : importRes2 false r [] v k = k b.v := by
  rcases h with rfl | ⟨hn, rfl⟩
  · simp only [importRes2, b.pure, cond_true]
  · have : b.v = .agg [vi b.lo, vi b.hi, .lit 1 (b.ws.map V.str), .bool b.some, .bool b.text] := by rw [Bd.v, hn]
    rw [this]
    rfl
theorem sAct_fnI {E : Env} {r : Nat} {g : Nat} {args : List V} {v v' : V} {S : SS} {Q : KK} (hm : modesOf E g = []) (hp : V.arePure args = true) (he : Ev E g args ⟨v, []⟩) (hv : ∀ (r : Nat) (k : V → Act2), importRes2 false r [] v k = k v') (k : Q v' S [] []) : sAct E (doCall2 E r false g args) S Q := by
  have key : ∀ (as : List V) (i : Nat) (kk : List V → List Nat → List WRef → Act2), V.arePure as = true → prepare2 (r + 8) as [] i kk = kk as [] [] := by
    intro as
    induction as with
    | nil => intro i kk _; rfl
    | cons a as ih =>
      intro i kk h
      simp only [V.arePure, Bool.and_eq_true] at h
      simp only [prepare2, snapV2, h.1, cond_true, List.nil_append]
      rw [ih (i + 1) _ h.2]
  unfold doCall2
  rw [hm, key args 0 _ hp]
  refine ⟨rfl, ⟨⟨v, []⟩, he, ?_⟩⟩
  simp only [putOuts2, hv, sAct]
  exact k
theorem yes_ev : Ev E 394 [] ⟨(nb 1 1).v, []⟩ := by
  refine Ev.of_s' E_394 (X_394 _) rfl ?_
  (conv => whnf); repeat' ((first | intro g | refine st ?_ | (first | refine b1 ?_ ?_ | refine b2 ?_ ?_ | refine Br.mk ?_ ?_) <;> intro hc | exact rfl) <;> conv => whnf)
theorem no_ev : Ev E 395 [] ⟨(nb 0 0).v, []⟩ := by
  refine Ev.of_s' E_395 (X_395 _) rfl ?_
  (conv => whnf); repeat' ((first | intro g | refine st ?_ | (first | refine b1 ?_ ?_ | refine b2 ?_ ?_ | refine Br.mk ?_ ?_) <;> intro hc | exact rfl) <;> conv => whnf)
theorem maybe_ev : Ev E 377 [] ⟨(nb 0 1).v, []⟩ := by
  refine Ev.of_s' E_377 (X_377 _) rfl ?_
  (conv => whnf); repeat' ((first | intro g | refine st ?_ | (first | refine b1 ?_ ?_ | refine b2 ?_ ?_ | refine Br.mk ?_ ?_) <;> intro hc | exact rfl) <;> conv => whnf)
def least (a b : Bd) : Bd := nb (imin a.lo b.lo) (imin a.hi b.hi)
def greatest (a b : Bd) : Bd := nb (imax a.lo b.lo) (imax a.hi b.hi)
def plus (a b : Bd) : Bd := nb (lim (w64 (a.lo + b.lo))) (lim (w64 (a.hi + b.hi)))
def minus (a b : Bd) : Bd := nb (lim (w64 (a.lo - b.hi))) (lim (w64 (a.hi - b.lo)))
def lessB (a b : Bd) : Bd := if a.hi < b.lo then nb 1 1 else if b.hi ≤ a.lo then nb 0 0 else nb 0 1
def prodL (a b : Bd) : Int := imin (imin (imin (lim (w64 (a.lo * b.lo))) (lim (w64 (a.lo * b.hi)))) (lim (w64 (a.hi * b.lo)))) (lim (w64 (a.hi * b.hi)))
def prodH (a b : Bd) : Int := imax (imax (imax (lim (w64 (a.lo * b.lo))) (lim (w64 (a.lo * b.hi)))) (lim (w64 (a.hi * b.lo)))) (lim (w64 (a.hi * b.hi)))
def times (a b : Bd) : Bd := nb (prodL a b) (prodH a b)
theorem least_ev (a b : Bd) : Ev E 408 [a.v, b.v] ⟨(least a b).v, []⟩ := by
  have ha := slS_pure a.nl a.ws
  have hb := slS_pure b.nl b.ws
  simp only [Bd.v]
  generalize slS a.nl a.ws = A at *
  generalize slS b.nl b.ws = B at *
  refine Ev.of_s' E_408 (X_408 _) rfl ?_
  (conv => whnf); repeat' ((first | intro g | refine st ?_ | (first | refine b1 ?_ ?_ | refine b2 ?_ ?_ | refine Br.mk ?_ ?_) <;> intro hc | exact rfl) <;> conv => whnf)
theorem single_ev (a : Bd) : Ev E 416 [a.v] ⟨.bool (decide (a.lo = a.hi)), []⟩ := by
  have ha := slS_pure a.nl a.ws
  simp only [Bd.v]
  generalize slS a.nl a.ws = A at *
  refine Ev.of_s' E_416 (X_416 _) rfl ?_
  (conv => whnf); repeat' ((first | intro g | refine st ?_ | (first | refine b1 ?_ ?_ | refine b2 ?_ ?_ | refine Br.mk ?_ ?_) <;> intro hc | exact rfl) <;> conv => whnf)
end Go.AM
set_option maxRecDepth 20000
namespace Go.AM
theorem greatest_ev (a b : Bd) : Ev E 409 [a.v, b.v] ⟨(greatest a b).v, []⟩ := by
  simp only [Bd.v]
  generalize slS a.nl a.ws = A at *
  generalize slS b.nl b.ws = B at *
  refine Ev.of_s' E_409 (X_409 _) rfl ?_
  (conv => whnf); repeat' ((first | intro g | refine st ?_ | (first | refine b1 ?_ ?_ | refine b2 ?_ ?_ | refine Br.mk ?_ ?_) <;> intro hc | exact rfl) <;> conv => whnf)
theorem plus_ev (a b : Bd) : Ev E 412 [a.v, b.v] ⟨(plus a b).v, []⟩ := by
  simp only [Bd.v]
  generalize slS a.nl a.ws = A at *
  generalize slS b.nl b.ws = B at *
  refine Ev.of_s' E_412 (X_412 _) rfl ?_
  (conv => whnf); repeat' ((first | intro g | refine CallS.mk _ (qlim_ev _) ?_ | refine st ?_ | (first | refine b1 ?_ ?_ | refine b2 ?_ ?_ | refine Br.mk ?_ ?_) <;> intro hc | exact rfl) <;> conv => whnf)
theorem minus_ev (a b : Bd) : Ev E 413 [a.v, b.v] ⟨(minus a b).v, []⟩ := by
  simp only [Bd.v]
  generalize slS a.nl a.ws = A at *
  generalize slS b.nl b.ws = B at *
  refine Ev.of_s' E_413 (X_413 _) rfl ?_
  (conv => whnf); repeat' ((first | intro g | refine CallS.mk _ (qlim_ev _) ?_ | refine st ?_ | (first | refine b1 ?_ ?_ | refine b2 ?_ ?_ | refine Br.mk ?_ ?_) <;> intro hc | exact rfl) <;> conv => whnf)
theorem less_ev (a b : Bd) : Ev E 411 [a.v, b.v] ⟨(lessB a b).v, []⟩ := by
  unfold lessB
  generalize hr : (if a.hi < b.lo then nb 1 1 else if b.hi ≤ a.lo then nb 0 0 else nb 0 1) = R
  simp only [Bd.v]
  generalize slS a.nl a.ws = A at *
  generalize slS b.nl b.ws = B at *
  refine Ev.of_s' E_411 (X_411 _) rfl ?_
  (conv => whnf); repeat' ((first | intro g | refine CallS.mk _ (yes_ev) ?_ | refine CallS.mk _ (no_ev) ?_ | refine CallS.mk _ (maybe_ev) ?_ | refine st ?_ | (first | refine b1 ?_ ?_ | refine b2 ?_ ?_ | refine Br.mk ?_ ?_) <;> intro hc | exact rfl) <;> conv => whnf)
  all_goals (rw [← hr]; simp only [*, if_true, if_false]; rfl)
def minN (w x y z : Int) : Nat → Int
  | 0 => w
  | 1 => w
  | 2 => imin w x
  | 3 => imin (imin w x) y
  | _ + 4 => imin (imin (imin w x) y) z
theorem min4_ev (w x y z : Int) : Ev E 429 [.lit 1 [vi w, vi x, vi y, vi z]] ⟨vi (imin (imin (imin w x) y) z), []⟩ := by
  refine Ev.of_s' E_429 (X_429 _) rfl ?_
  (conv => whnf); repeat' ((first | intro g | refine st ?_ | (first | refine b1 ?_ ?_ | refine b2 ?_ ?_ | refine Br.mk ?_ ?_) <;> intro hc | exact rfl) <;> conv => whnf)
  refine LoopS.by (fun (i : Nat) => ⟨[(0, .lit 1 [vi w, vi x, vi y, vi z]), (3, vi (minN w x y z i)), (4, vnat i)], []⟩) (fun i => 1 ≤ i ∧ i ≤ 4) (fun i => 4 - i) 1 (by (refine ⟨?_, ?_⟩ <;> repeat' (first | exact True.intro | refine ai ?_ | refine And.intro ?_ ?_))) (by simp) ?_
  rintro i ⟨h1, hi⟩
  have hi2 : i = 1 ∨ i = 2 ∨ i = 3 ∨ i = 4 := by omega
  rcases hi2 with rfl | rfl | rfl | rfl
  · (conv => whnf); repeat' ((first | intro g | refine Wit.mk _ (rfl) ?_ | refine st ?_ | (first | refine b1 ?_ ?_ | refine b2 ?_ ?_ | refine Br.mk ?_ ?_) <;> intro hc | exact rfl) <;> conv => whnf)
    exact NxtS.mk 2 (by first | omega | (dsimp only; omega)) ⟨by omega, by omega⟩ (by (refine ⟨?_, ?_⟩ <;> repeat' (first | exact True.intro | refine ai ?_ | refine And.intro ?_ ?_)))
  · (conv => whnf); repeat' ((first | intro g | refine Wit.mk _ (rfl) ?_ | refine st ?_ | (first | refine b1 ?_ ?_ | refine b2 ?_ ?_ | refine Br.mk ?_ ?_) <;> intro hc | exact rfl) <;> conv => whnf)
    exact NxtS.mk 3 (by first | omega | (dsimp only; omega)) ⟨by omega, by omega⟩ (by (refine ⟨?_, ?_⟩ <;> repeat' (first | exact True.intro | refine ai ?_ | refine And.intro ?_ ?_)))
  · (conv => whnf); repeat' ((first | intro g | refine Wit.mk _ (rfl) ?_ | refine st ?_ | (first | refine b1 ?_ ?_ | refine b2 ?_ ?_ | refine Br.mk ?_ ?_) <;> intro hc | exact rfl) <;> conv => whnf)
    exact NxtS.mk 4 (by first | omega | (dsimp only; omega)) ⟨by omega, by omega⟩ (by (refine ⟨?_, ?_⟩ <;> repeat' (first | exact True.intro | refine ai ?_ | refine And.intro ?_ ?_)))
  · (conv => whnf); repeat' ((first | intro g | refine st ?_ | (first | refine b1 ?_ ?_ | refine b2 ?_ ?_ | refine Br.mk ?_ ?_) <;> intro hc | exact rfl) <;> conv => whnf)
def maxN (w x y z : Int) : Nat → Int
  | 0 => w
  | 1 => w
  | 2 => imax w x
  | 3 => imax (imax w x) y
  | _ + 4 => imax (imax (imax w x) y) z
theorem max4_ev (w x y z : Int) : Ev E 430 [.lit 1 [vi w, vi x, vi y, vi z]] ⟨vi (imax (imax (imax w x) y) z), []⟩ := by
  refine Ev.of_s' E_430 (X_430 _) rfl ?_
  (conv => whnf); repeat' ((first | intro g | refine st ?_ | (first | refine b1 ?_ ?_ | refine b2 ?_ ?_ | refine Br.mk ?_ ?_) <;> intro hc | exact rfl) <;> conv => whnf)
  refine LoopS.by (fun (i : Nat) => ⟨[(0, .lit 1 [vi w, vi x, vi y, vi z]), (3, vi (maxN w x y z i)), (4, vnat i)], []⟩) (fun i => 1 ≤ i ∧ i ≤ 4) (fun i => 4 - i) 1 (by (refine ⟨?_, ?_⟩ <;> repeat' (first | exact True.intro | refine ai ?_ | refine And.intro ?_ ?_))) (by simp) ?_
  rintro i ⟨h1, hi⟩
  have hi2 : i = 1 ∨ i = 2 ∨ i = 3 ∨ i = 4 := by omega
  rcases hi2 with rfl | rfl | rfl | rfl
  · (conv => whnf); repeat' ((first | intro g | refine Wit.mk _ (rfl) ?_ | refine st ?_ | (first | refine b1 ?_ ?_ | refine b2 ?_ ?_ | refine Br.mk ?_ ?_) <;> intro hc | exact rfl) <;> conv => whnf)
    exact NxtS.mk 2 (by first | omega | (dsimp only; omega)) ⟨by omega, by omega⟩ (by (refine ⟨?_, ?_⟩ <;> repeat' (first | exact True.intro | refine ai ?_ | refine And.intro ?_ ?_)))
  · (conv => whnf); repeat' ((first | intro g | refine Wit.mk _ (rfl) ?_ | refine st ?_ | (first | refine b1 ?_ ?_ | refine b2 ?_ ?_ | refine Br.mk ?_ ?_) <;> intro hc | exact rfl) <;> conv => whnf)
    exact NxtS.mk 3 (by first | omega | (dsimp only; omega)) ⟨by omega, by omega⟩ (by (refine ⟨?_, ?_⟩ <;> repeat' (first | exact True.intro | refine ai ?_ | refine And.intro ?_ ?_)))
  · (conv => whnf); repeat' ((first | intro g | refine Wit.mk _ (rfl) ?_ | refine st ?_ | (first | refine b1 ?_ ?_ | refine b2 ?_ ?_ | refine Br.mk ?_ ?_) <;> intro hc | exact rfl) <;> conv => whnf)
    exact NxtS.mk 4 (by first | omega | (dsimp only; omega)) ⟨by omega, by omega⟩ (by (refine ⟨?_, ?_⟩ <;> repeat' (first | exact True.intro | refine ai ?_ | refine And.intro ?_ ?_)))
  · (conv => whnf); repeat' ((first | intro g | refine st ?_ | (first | refine b1 ?_ ?_ | refine b2 ?_ ?_ | refine Br.mk ?_ ?_) <;> intro hc | exact rfl) <;> conv => whnf)
theorem times_ev (a b : Bd) : Ev E 414 [a.v, b.v] ⟨(times a b).v, []⟩ := by
  simp only [Bd.v]
  generalize slS a.nl a.ws = A at *
  generalize slS b.nl b.ws = B at *
  refine Ev.of_s' E_414 (X_414 _) rfl ?_
  (conv => whnf); repeat' ((first | intro g | refine CallS.mk _ (qlim_ev _) ?_ | refine CallS.mk _ (min4_ev _ _ _ _) ?_ | refine CallS.mk _ (max4_ev _ _ _ _) ?_ | refine st ?_ | (first | refine b1 ?_ ?_ | refine b2 ?_ ?_ | refine Br.mk ?_ ?_) <;> intro hc | exact rfl) <;> conv => whnf)
end Go.AM
