/-
  Texts of the proof, joined by program: PSimA, PSimB, PSimS. Own work.
-/
import Derived.Test.YtjmcpijpclfakaaGreatIb
import Derived.Test.YtjmcpijpclfakaaGreatJc
set_option linter.unusedSimpArgs false
set_option linter.unusedVariables false
set_option maxRecDepth 20000
namespace Go.AM
def cEx (v : Va) : Ex := .mk 1 0 v false []
def conE (t : Int) (b : Bd) : Option Ex :=
  if t = 3 then (match b.ws with
    | [s] => if (Va.mk 3 0 false s).right then some (cEx ⟨3, 0, false, s⟩) else none
    | _ => none)
  else if b.lo = b.hi then some (cEx (if t = 2 then ⟨2, 0, decide (b.lo = 1), []⟩ else ⟨t, b.lo, false, []⟩)) else none
def BdStr (b : Bd) : Prop := ∀ s ∈ b.ws, s.length < 4611686018427387904
theorem union_mem {s : Str} : ∀ {l a : List Str}, s ∈ union a l → s ∈ a ∨ s ∈ l
  | [], _, h => .inl h
  | x :: l, a, h => by
    unfold union at h
    rcases union_mem h with h1 | h1
    · split at h1
      · exact .inl h1
      · rcases List.mem_append.1 h1 with h1 | h1
        · exact .inl h1
        · simp at h1; subst h1; exact .inr (by simp)
    · exact .inr (by simp [h1])
theorem fact_str {l : List Kno} (h : KFit l) (v : Int) : BdStr (factB l v) := by
  unfold factB
  split
  · intro s hs
    simp only [textsB] at hs
    cases ho : ownOf v l with
    | nil => rw [ho] at hs; simp [textsW] at hs
    | cons k own =>
      rw [ho] at hs
      have hk : k ∈ l := (List.mem_filter.1 (show k ∈ ownOf v l by rw [ho]; simp)).1
      simp only [textsW] at hs
      rcases union_mem hs with h1 | h1
      · simp at h1
      · exact h.str k hk s (List.mem_filter.1 h1).1
  · unfold rngB; split <;> (intro s hs; simp [nb] at hs)
theorem bd_str {l : List Kno} (h : KFit l) : ∀ (k : Nat) (e : Ex), e.size ≤ k → e.Fit → e.typ ≠ 0 → BdStr (e.bd (factB l))
  | 0, e, h, _, _ => by have := e.size_pos; omega
  | k + 1, .mk op var val nl l', hk, hf, ht => by
    have hc := typ_cases ht
    rw [Ex.bd_eq]
    have hsz : (Ex.mk op var val nl l').size = 1 + Ex.sizes l' := by simp only [Ex.size]
    have hnb : ∀ a b, BdStr (nb a b) := fun a b s hs => by simp [nb] at hs
    rcases hc with ⟨rfl, rfl, _, hr, e⟩ | ⟨rfl, rfl, _, hv, e⟩ | ⟨x, rfl, rfl, _, _, hx, e⟩ | ⟨x, y, ho, rfl, _, _, hx, hy, e, _⟩ | ⟨x, y, z, rfl, rfl, _, _, hx, hy, hz, e⟩
    · simp only [List.map_nil, headBd, if_true]
      unfold constBd
      have hfv := hf.val
      split
      · intro s hs; simp at hs; subst hs; exact hfv
      split
      · cases val.b <;> exact hnb _ _
      · exact hnb _ _
    · simp only [List.map_nil, headBd, Int.reduceEq, if_false]
      exact fact_str h var
    · exact hnb _ _
    · simp only [List.map_cons, List.map_nil, headBd]
      obtain ⟨a, b, hab⟩ := opBd_nb op (x.bd (factB l)) (y.bd (factB l))
      rw [hab]; exact hnb _ _
    · have sx : Ex.sizes [x, y, z] = x.size + (y.size + z.size) := by simp [Ex.sizes]
      have iy := bd_str h k y (by omega) (hf.mem y (by simp)) hy
      have iz := bd_str h k z (by omega) (hf.mem z (by simp)) (by omega)
      simp only [List.map_cons, List.map_nil, headBd]
      split
      · exact iy
      split
      · exact iz
      · unfold either
        split
        · split
          · intro s hs
            rcases union_mem hs with h1 | h1
            · exact iy s h1
            · exact iz s h1
          · intro s hs; simp at hs
        · exact hnb _ _
def ConV (o : Option Ex) (v : V) : Prop := ∃ X : Ex, v = .tuple [X.v, .bool o.isSome] ∧ ∀ c, o = some c → X = c
theorem cEx_v (v : Va) : (cEx v).v = .agg [vi 1, vi 0, vi v.t, vi v.n, .bool v.b, .str v.s, .lit 7 []] := by
  rw [cEx, Ex.v_eq]; rfl
theorem cEx_check (s : Str) (h : s.length < 4611686018427387904) : ∃ t er, Ev E 338 [(cEx ⟨3, 0, false, s⟩).v] ⟨.tuple [vi t, vi er], []⟩ ∧ (er = 0 ↔ (Va.mk 3 0 false s).right = true) := by
  have hch := pcheck_ev (cEx ⟨3, 0, false, s⟩) (by simp [cEx, Ex.size, Ex.sizes]) (.mk _ _ _ _ _ h (by simp))
  refine ⟨_, _, hch, ?_⟩
  simp only [Ex.err, cEx, Ex.size, Ex.sizes, Ex.typ, Ex.typs, headT, okHead, many]
  cases hr : (Va.mk 3 0 false s).right <;> simp
set_option maxHeartbeats 1000000 in
theorem value_ev {es : List V} {a b c d : Int} {e : Bool} {f : Str} {L : V} {bx : Bd} {t : Int} (hmp : V.isPure (.mlit es) = true) (hp : V.isPure (.agg [vi a, vi b, vi c, vi d, .bool e, .str f, L]) = true)
    (hof : Ev E 340 [.mlit es, .agg [vi a, vi b, vi c, vi d, .bool e, .str f, L]] ⟨bx.v, []⟩) (ht : t = 1 ∨ t = 2 ∨ t = 3) (hstr : BdStr bx) :
    ∃ v, Ev E 387 [.mlit es, .agg [vi a, vi b, vi c, vi d, .bool e, .str f, L], vi t] ⟨v, []⟩ ∧ ConV (conE t bx) v := by
  have hm2 : modesOf E 340 = [] := rfl
  have hm3 : modesOf E 416 = [] := rfl
  have hpa := apure2 hmp hp
  have hsg := single_ev bx
  obtain ⟨lo, hi, nl, ws, so, tx⟩ := bx
  have hpb : ∀ W, V.isPure W = true → V.arePure [.agg [vi lo, vi hi, W, .bool so, .bool tx]] = true := fun W h => by simp [V.arePure, V.isPure, h]
  rcases ht with rfl | rfl | rfl
  · refine ⟨.tuple [(cEx ⟨1, lo, false, []⟩).v, .bool (decide (lo = hi))], ?_, cEx ⟨1, lo, false, []⟩, ?_, ?_⟩
    · have hW := slS_pure nl ws
      simp only [Bd.v] at hof hsg
      have hpb := hpb _ hW
      generalize slS nl ws = W at *
      rw [cEx_v]
      have hvp : V.isPure (.agg [vi lo, vi hi, W, .bool so, .bool tx]) = true := by simpa [V.arePure] using hpb
      refine Ev.of_s' E_387 (X_387 _) rfl ?_
      (conv => whnf); repeat' ((first | refine sAct_fn hm2 hpa hof hvp ?_ | refine sAct_fn hm3 hpb hsg rfl ?_ | intro g | refine st ?_ | (first | refine b1 ?_ ?_ | refine b2 ?_ ?_ | refine Br.mk ?_ ?_) <;> intro hc | exact rfl) <;> conv => whnf)
    · by_cases h : lo = hi <;> simp [conE, h]
    · intro c hc
      simp only [conE, Int.reduceEq, if_false] at hc
      split at hc
      · exact Option.some.inj hc
      · cases hc
  · refine ⟨.tuple [(cEx ⟨2, 0, decide (lo = 1), []⟩).v, .bool (decide (lo = hi))], ?_, cEx ⟨2, 0, decide (lo = 1), []⟩, ?_, ?_⟩
    · have hW := slS_pure nl ws
      simp only [Bd.v] at hof hsg
      have hpb := hpb _ hW
      generalize slS nl ws = W at *
      rw [cEx_v]
      have hvp : V.isPure (.agg [vi lo, vi hi, W, .bool so, .bool tx]) = true := by simpa [V.arePure] using hpb
      refine Ev.of_s' E_387 (X_387 _) rfl ?_
      (conv => whnf); repeat' ((first | refine sAct_fn hm2 hpa hof hvp ?_ | refine sAct_fn hm3 hpb hsg rfl ?_ | intro g | refine st ?_ | (first | refine b1 ?_ ?_ | refine b2 ?_ ?_ | refine Br.mk ?_ ?_) <;> intro hc | exact rfl) <;> conv => whnf)
    · by_cases h : lo = hi <;> simp [conE, h]
    · intro c hc
      simp only [conE, Int.reduceEq, if_false, if_true] at hc
      split at hc
      · exact Option.some.inj hc
      · cases hc
  · by_cases hl : ws.length = 1
    · obtain ⟨s, rfl⟩ : ∃ s, ws = [s] := by
        match ws, hl with
        | [s], _ => exact ⟨s, rfl⟩
      obtain ⟨t', er, hch, her⟩ := cEx_check s (hstr s (by simp))
      rw [cEx_v] at hch
      refine ⟨.tuple [(cEx ⟨3, 0, false, s⟩).v, .bool (decide (er = 0))], ?_, cEx ⟨3, 0, false, s⟩, ?_, ?_⟩
      · have hof2 : Ev E 340 [.mlit es, .agg [vi a, vi b, vi c, vi d, .bool e, .str f, L]] ⟨.agg [vi lo, vi hi, .lit 1 [.str s], .bool so, .bool tx], []⟩ := hof
        rw [cEx_v]
        refine Ev.of_s' E_387 (X_387 _) rfl ?_
        (conv => whnf); repeat' ((first | refine sAct_fn hm2 hpa hof2 rfl ?_ | intro g | refine Wit.mk _ (rfl) ?_ | refine CallS.mk _ (hch) ?_ | refine st ?_ | (first | refine b1 ?_ ?_ | refine b2 ?_ ?_ | refine Br.mk ?_ ?_) <;> intro hc | exact rfl) <;> conv => whnf)
      · simp only [conE, if_true]
        by_cases hr : (Va.mk 3 0 false s).right = true
        · simp [hr, her]
        · simp [hr, her]
      · intro c hc
        simp only [conE, if_true] at hc
        split at hc
        · exact Option.some.inj hc
        · cases hc
    · have hcon : conE 3 ⟨lo, hi, nl, ws, so, tx⟩ = none := by
        simp only [conE, if_true]
        split
        · simp_all
        · rfl
      rw [hcon]
      refine ⟨.tuple [(Ex.mk 0 0 zeroVa false []).v, .bool false], ?_, _, rfl, by simp⟩
      have hX : (Ex.mk 0 0 zeroVa false []).v = .agg [vi 0, vi 0, vi 0, vi 0, .bool false, .str [], .lit 7 []] := by rw [Ex.v_eq]; rfl
      rw [hX]
      have lm : (ws.map V.str).length = ws.length := List.length_map ..
      simp only [Bd.v] at hof
      rcases slS_form nl ws with ⟨e1, e2⟩ | e1 <;> rw [e1] at hof
      all_goals
        refine Ev.of_s' E_387 (X_387 _) rfl ?_
        (conv => whnf); repeat' ((first | refine sAct_fn hm2 hpa hof rfl ?_ | intro g | refine st ?_ | (first | refine b1 ?_ ?_ | refine b2 ?_ ?_ | refine Br.mk ?_ ?_) <;> intro hc | exact rfl) <;> conv => whnf)
end Go.AM
set_option maxRecDepth 20000
namespace Go.AM
set_option maxHeartbeats 1000000 in
theorem constant_ev {sv : V} (hsv : Sv sv) {a b c d : Int} {e : Bool} {f : Str} {L : V} {bx : Bd} {t : Int} (hp : V.isPure (.agg [vi a, vi b, vi c, vi d, .bool e, .str f, L]) = true)
    (hb : t ≠ 3 → Ev E 342 [.agg [vi a, vi b, vi c, vi d, .bool e, .str f, L], sv] ⟨.tuple [vi bx.lo, vi bx.hi], []⟩)
    (hw : t = 3 → ∃ v, Ev E 388 [.agg [vi a, vi b, vi c, vi d, .bool e, .str f, L], sv] ⟨v, []⟩ ∧ RW bx.ws bx.some v)
    (ht : t = 1 ∨ t = 2 ∨ t = 3) (hstr : BdStr bx) (hso : t = 3 → (bx.some = true ↔ bx.ws ≠ [])) :
    ∃ v, Ev E 345 [.agg [vi a, vi b, vi c, vi d, .bool e, .str f, L], vi t, sv] ⟨v, []⟩ ∧ ConV (conE t bx) v := by
  have hm2 : modesOf E 342 = [] := rfl
  have hm3 : modesOf E 388 = [] := rfl
  obtain ⟨lo, hi, nl, ws, so, tx⟩ := bx
  dsimp only at hb hw hso
  rcases ht with rfl | rfl | rfl
  · have hb := hb (by decide)
    refine ⟨.tuple [(cEx ⟨1, lo, false, []⟩).v, .bool (decide (lo = hi))], ?_, cEx ⟨1, lo, false, []⟩, ?_, ?_⟩
    · rw [cEx_v]
      rcases hsv with rfl | ⟨ks, rfl⟩
      all_goals
        refine Ev.of_s' E_345 (X_345 _) rfl ?_
        (conv => whnf); repeat' ((first | refine sAct_fn hm2 (apure2 hp rfl) hb rfl ?_ | intro g | refine CallS.mk _ (rint_ev _) ?_ | refine CallS.mk _ (rbool_ev _) ?_ | refine st ?_ | (first | refine b1 ?_ ?_ | refine b2 ?_ ?_ | refine Br.mk ?_ ?_) <;> intro hc | exact rfl) <;> conv => whnf)
    · by_cases h : lo = hi <;> simp [conE, h]
    · intro c hc
      simp only [conE, Int.reduceEq, if_false] at hc
      split at hc
      · exact Option.some.inj hc
      · cases hc
  · have hb := hb (by decide)
    refine ⟨.tuple [(cEx ⟨2, 0, decide (lo = 1), []⟩).v, .bool (decide (lo = hi))], ?_, cEx ⟨2, 0, decide (lo = 1), []⟩, ?_, ?_⟩
    · rw [cEx_v]
      rcases hsv with rfl | ⟨ks, rfl⟩
      all_goals
        refine Ev.of_s' E_345 (X_345 _) rfl ?_
        (conv => whnf); repeat' ((first | refine sAct_fn hm2 (apure2 hp rfl) hb rfl ?_ | intro g | refine CallS.mk _ (rint_ev _) ?_ | refine CallS.mk _ (rbool_ev _) ?_ | refine st ?_ | (first | refine b1 ?_ ?_ | refine b2 ?_ ?_ | refine Br.mk ?_ ?_) <;> intro hc | exact rfl) <;> conv => whnf)
    · by_cases h : lo = hi <;> simp [conE, h]
    · intro c hc
      simp only [conE, Int.reduceEq, if_false, if_true] at hc
      split at hc
      · exact Option.some.inj hc
      · cases hc
  · obtain ⟨v, hwv, hr⟩ := hw rfl
    clear hw hb
    have hso := hso rfl
    have himp := fun r k => hr.imp r k
    have lm : (ws.map V.str).length = ws.length := List.length_map ..
    by_cases hl : ws.length = 1
    · obtain ⟨s, rfl⟩ : ∃ s, ws = [s] := by
        match ws, hl with
        | [s], _ => exact ⟨s, rfl⟩
      obtain rfl : so = true := hso.2 (by simp)
      have hri := rright_ev ⟨3, 0, false, s⟩ (hstr s (by simp))
      simp only [Va.v] at hri
      refine ⟨.tuple [(cEx ⟨3, 0, false, s⟩).v, .bool (Va.mk 3 0 false s).right], ?_, cEx ⟨3, 0, false, s⟩, ?_, ?_⟩
      · rw [cEx_v]
        rcases hsv with rfl | ⟨ks, rfl⟩
        all_goals
          refine Ev.of_s' E_345 (X_345 _) rfl ?_
          (conv => whnf); repeat' ((first | refine sAct_fnI hm3 (apure2 hp rfl) hwv himp ?_ | intro g | refine Wit.mk _ (rfl) ?_ | refine CallS.mk _ (rstr_ev _) ?_ | refine CallS.mk _ (hri) ?_ | refine st ?_ | (first | refine b1 ?_ ?_ | refine b2 ?_ ?_ | refine Br.mk ?_ ?_) <;> intro hc | exact rfl) <;> conv => whnf)
      · simp only [conE, if_true]
        cases hr : (Va.mk 3 0 false s).right <;> simp
      · intro c hc
        simp only [conE, if_true] at hc
        split at hc
        · exact Option.some.inj hc
        · cases hc
    · have hcon : conE 3 ⟨lo, hi, nl, ws, so, tx⟩ = none := by
        simp only [conE, if_true]
        split
        · simp_all
        · rfl
      rw [hcon]
      refine ⟨.tuple [(Ex.mk 1 0 zeroVa false []).v, .bool false], ?_, _, rfl, by simp⟩
      have hX : (Ex.mk 1 0 zeroVa false []).v = .agg [vi 1, vi 0, vi 0, vi 0, .bool false, .str [], .lit 7 []] := by rw [Ex.v_eq]; rfl
      rw [hX]
      rcases hsv with rfl | ⟨ks, rfl⟩ <;> cases so
      all_goals
        refine Ev.of_s' E_345 (X_345 _) rfl ?_
        (conv => whnf); repeat' ((first | refine sAct_fnI hm3 (apure2 hp rfl) hwv himp ?_ | intro g | refine st ?_ | (first | refine b1 ?_ ?_ | refine b2 ?_ ?_ | refine Br.mk ?_ ?_) <;> intro hc | exact rfl) <;> conv => whnf)
def pick (op : Int) (bs : List Bd) (ss : List Ex) : Option Ex :=
  match bs, ss with
  | [a, _, _], [_, y, z] => if op = 13 then (if a.lo = 1 then some y else if a.hi = 0 then some z else none) else none
  | [a, b], [x, y] => if op = 4 then (if a.lo = 1 then some y else if b.lo = 1 then some x else none) else if op = 5 then (if a.hi = 0 then some y else if b.hi = 0 then some x else none) else none
  | _, _ => none
def simHead (o : Option Ex) (op var : Int) (val : Va) (bs : List Bd) (ss : List Ex) : Ex :=
  match o with
  | some c => c
  | none => match pick op bs ss with
    | some s => s
    | none => .mk op var val true ss
mutual
def Ex.sim (K : Int → Bd) : Ex → Ex
  | .mk op var val nl l => simHead (conE (headT op var val l.length (Ex.typs l)) (headBd K op var val (Ex.bds K l))) op var val (Ex.bds K l) (Ex.sims K l)
def Ex.sims (K : Int → Bd) : List Ex → List Ex
  | [] => []
  | e :: l => e.sim K :: Ex.sims K l
end
theorem Ex.sims_eq (K : Int → Bd) : ∀ l : List Ex, Ex.sims K l = l.map (Ex.sim K)
  | [] => by simp [Ex.sims]
  | e :: l => by simp [Ex.sims, Ex.sims_eq K l]
theorem Ex.sim_eq (K : Int → Bd) (op var : Int) (val : Va) (nl : Bool) (l : List Ex) : (Ex.mk op var val nl l).sim K = simHead (conE (Ex.mk op var val nl l).typ ((Ex.mk op var val nl l).bd K)) op var val (l.map (Ex.bd K)) (l.map (Ex.sim K)) := by
  rw [Ex.sim]
  simp only [Ex.typ, Ex.bd, Ex.bds_eq, Ex.sims_eq]
def ExR (e : Ex) (r : V) : Prop := r = e.v ∨ ∃ op var val nl x l, e = .mk op var val nl (x :: l) ∧ r = .agg [vi op, vi var, vi val.t, vi val.n, .bool val.b, .str val.s, .own 7 ((x :: l).map Ex.v)]
theorem ExR.imp {e : Ex} {v : V} (h : ExR e v) (r : Nat) (k : V → Act2) : importRes2 false r [] v k = k e.v := by
  rcases h with rfl | ⟨op, var, val, nl, x, l, rfl, rfl⟩
  · simp only [importRes2, e.pure, cond_true]
  · rw [Ex.v_eq]; rfl
theorem evex {f : Nat} {args : List V} {Q : V → Prop} (h : ∃ r, Ev E f args r ∧ ∃ v, r = ⟨v, []⟩ ∧ Q v) : ∃ v, Ev E f args ⟨v, []⟩ ∧ Q v := by
  obtain ⟨r, h1, v, rfl, h2⟩ := h
  exact ⟨v, h1, h2⟩
theorem exr_own {l L : List Ex} {S : Ex → Ex} {op var : Int} {val : Va} (h : 0 < l.length) (hL : L = l.map S) : ExR (.mk op var val true (l.map S)) (.agg [vi op, vi var, vi val.t, vi val.n, .bool val.b, .str val.s, .own 7 (L.map Ex.v)]) := by
  subst hL
  cases l with
  | nil => simp at h
  | cons x l => exact .inr ⟨op, var, val, true, S x, l.map S, rfl, rfl⟩
end Go.AM
set_option maxRecDepth 20000
namespace Go.AM
theorem conE_size {t : Int} {b : Bd} {c : Ex} (h : conE t b = some c) : c.size = 1 := by
  have hc : ∀ v, (cEx v).size = 1 := fun v => by simp [cEx, Ex.size, Ex.sizes]
  unfold conE at h
  split at h
  · split at h
    · split at h
      · rw [← Option.some.inj h]; exact hc _
      · cases h
    · cases h
  · split at h
    · rw [← Option.some.inj h]; exact hc _
    · cases h
theorem pick_mem {op : Int} {bs : List Bd} {ss : List Ex} {s : Ex} (h : pick op bs ss = some s) : s ∈ ss := by
  unfold pick at h
  split at h
  · repeat' split at h
    all_goals first | (cases h) | skip
    all_goals simp
  · repeat' split at h
    all_goals first | (cases h) | skip
    all_goals simp
  · cases h
mutual
theorem sim_size (K : Int → Bd) : ∀ e : Ex, (e.sim K).size ≤ e.size
  | .mk op var val nl l => by
    have hs := sims_size K l
    rw [Ex.sim]
    unfold simHead
    split
    · rename_i c hc
      rw [conE_size hc]
      exact (Ex.mk op var val nl l).size_pos
    · split
      · rename_i s hp
        have := Ex.size_mem (pick_mem hp)
        simp only [Ex.size]
        omega
      · simp only [Ex.size]
        omega
theorem sims_size (K : Int → Bd) : ∀ l : List Ex, Ex.sizes (Ex.sims K l) ≤ Ex.sizes l
  | [] => Nat.le_refl _
  | e :: l => by
    have h1 := sim_size K e
    have h2 := sims_size K l
    simp only [Ex.sims, Ex.sizes]
    omega
end
end Go.AM
