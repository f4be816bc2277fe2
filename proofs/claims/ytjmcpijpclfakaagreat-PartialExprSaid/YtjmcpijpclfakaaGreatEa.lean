/-
  Texts of the proof, joined by program: PTypE. Own work.
-/
import Derived.Test.YtjmcpijpclfakaaGreatD
set_option linter.unusedSimpArgs false
set_option linter.unusedVariables false
set_option maxRecDepth 20000
namespace Go.AM
theorem rtyp_bad (op var : Int) (val : Va) (nl : Bool) (l : List Ex) (hlen : l.length < 1000000) (h : okHead op var val l.length = false) : Ev E 383 [(Ex.mk op var val nl l).v] ⟨vi 0, []⟩ := by
  obtain ⟨t, n, b, s⟩ := val
  have hm := many_ev op
  have hz := @zero_iff ⟨t, n, b, s⟩
  rw [Ex.v_eq]
  refine Ev.of_s' E_383 (X_383 _) rfl ?_
  have hpu := Ex.pures l
  have hlm : (l.map Ex.v).length = l.length := List.length_map ..
  rcases lv_cases nl (l.map Ex.v) with ⟨e, e2⟩ | e
  · have : l = [] := by simpa using e2
    subst this
    rw [e]
    (conv => whnf); repeat' ((first | intro g | refine CallS.mk _ (hm) ?_ | refine st ?_ | (first | refine b1 ?_ ?_ | refine b2 ?_ ?_ | refine Br.mk ?_ ?_) <;> intro hc | exact rfl) <;> conv => whnf)
    all_goals (exfalso; simp [okHead, Va.zero, *] at h)
    all_goals simp_all
  · rw [e]
    (conv => whnf); repeat' ((first | intro g | refine CallS.mk _ (hm) ?_ | refine st ?_ | (first | refine b1 ?_ ?_ | refine b2 ?_ ?_ | refine Br.mk ?_ ?_) <;> intro hc | exact rfl) <;> conv => whnf)
    all_goals (exfalso; simp [okHead, Va.zero, *] at h)
    all_goals simp_all
theorem rtyp_const (val : Va) (nl : Bool) (hf : val.s.length < 4611686018427387904) : Ev E 383 [(Ex.mk 1 0 val nl []).v] ⟨vi (if val.right then val.t else 0), []⟩ := by
  obtain ⟨t, n, b, s⟩ := val
  have hr := rright_ev ⟨t, n, b, s⟩ hf
  have hm := many_ev 1
  simp only [Va.v] at hr
  rw [Ex.v_eq]
  refine Ev.of_s' E_383 (X_383 _) rfl ?_
  cases nl <;> simp only [List.map_nil, lv, cond_true, cond_false]
  all_goals
    (conv => whnf); repeat' ((first | intro g | refine CallS.mk _ (hm) ?_ | refine CallS.mk _ (hr) ?_ | refine st ?_ | (first | refine b1 ?_ ?_ | refine b2 ?_ ?_ | refine Br.mk ?_ ?_) <;> intro hc | exact rfl) <;> conv => whnf)
    rename_i g32
    refine LoopS.by (fun (i : Nat) => ⟨[(1, .ptr 32 g32 0 0), (3, .ptr 64 g 0 0), (4, vnat 0)], [(32, ⟨g32, 7, false, false, some [_]⟩), (64, ⟨g, 3, false, false, some [_]⟩)]⟩) (fun i => i = 0) (fun _ => 0) 0 (by (refine ⟨?_, ?_⟩ <;> repeat' (first | exact True.intro | refine ai ?_ | refine And.intro ?_ ?_))) rfl ?_
    rintro i rfl
    (conv => whnf); repeat' ((first | intro g | refine CallS.mk _ (hr) ?_ | refine st ?_ | (first | refine b1 ?_ ?_ | refine b2 ?_ ?_ | refine Br.mk ?_ ?_) <;> intro hc | exact rfl) <;> conv => whnf)
    all_goals simp [*]
theorem rtyp_var (var : Int) (nl : Bool) : Ev E 383 [(Ex.mk 2 var zeroVa nl []).v] ⟨vi (varT var), []⟩ := by
  have hv := varT_ev var
  have hm := many_ev 2
  rw [Ex.v_eq]
  refine Ev.of_s' E_383 (X_383 _) rfl ?_
  cases nl <;> simp only [List.map_nil, lv, cond_true, cond_false]
  all_goals
    (conv => whnf); repeat' ((first | intro g | refine CallS.mk _ (hm) ?_ | refine st ?_ | (first | refine b1 ?_ ?_ | refine b2 ?_ ?_ | refine Br.mk ?_ ?_) <;> intro hc | exact rfl) <;> conv => whnf)
    rename_i g32
    refine LoopS.by (fun (i : Nat) => ⟨[(1, .ptr 32 g32 0 0), (3, .ptr 64 g 0 0), (4, vnat 0)], [(32, ⟨g32, 7, false, false, some [_]⟩), (64, ⟨g, 3, false, false, some [_]⟩)]⟩) (fun i => i = 0) (fun _ => 0) 0 (by (refine ⟨?_, ?_⟩ <;> repeat' (first | exact True.intro | refine ai ?_ | refine And.intro ?_ ?_))) rfl ?_
    rintro i rfl
    (conv => whnf); repeat' ((first | intro g | refine CallS.mk _ (hv) ?_ | refine st ?_ | (first | refine b1 ?_ ?_ | refine b2 ?_ ?_ | refine Br.mk ?_ ?_) <;> intro hc | exact rfl) <;> conv => whnf)
end Go.AM
