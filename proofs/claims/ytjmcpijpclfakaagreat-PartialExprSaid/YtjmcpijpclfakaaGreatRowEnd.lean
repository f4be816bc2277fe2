/-
  hachurelaw21.PartialExpr: whatever the numbers and whatever is known: it returns true; the arguments read as before. Conditions: none. Own work.
-/
import Derived.Test.YtjmcpijpclfakaaGreatRc
import Derived.Test.YtjmcpijpclfakaaGreatTa
import Derived.Test.YtjmcpijpclfakaaGreatTb
import Derived.Test.YtjmcpijpclfakaaGreatRb
import Derived.Test.YtjmcpijpclfakaaGreatRg
import Derived.Test.YtjmcpijpclfakaaGreatSeat
import Derived.Test.YtjmcpijpclfakaaGreatOpsC
import Derived.WalkKit
import Derived.ProofKit
import Derived.OpenShut
import Derived.JoinedCond
import Derived.Carry
set_option linter.unusedSimpArgs false
set_option linter.unusedVariables false
set_option maxRecDepth 20000
namespace Go.AM
theorem rnd_all {x : Envi} {e : Ex} {ks1 ks2 : List Kno} {j : Nat} {g g144 g176 : Nat} {p5 p29 p30 p31 : V} {o96 o480 : Obj} {a1 b1 c1 d1 : Int} {e1 : Bool} {f1 : Str} {L1 : V} {Q : AExit → SS → Prop}
    (K1 : KFit ks1) (K2 : KFit ks2) (hj : j < 3) (hv : e.v = .agg [vi a1, vi b1, vi c1, vi d1, .bool e1, .str f1, L1]) (hL : L1 = .nils ∨ ∃ ys, L1 = .lit 7 ys) (s1 : e.size < 1000000) (ft : e.Fit) :
    wps E f309_l0 ⟨[(5, p5), (7, .bool true), (8, .ptr 144 g144 0 0), (29, p29), (30, p30), (31, p31), (10, .ptr 176 g176 0 0), (42, .sl 688 g 0 3), (43, vnat 3), (44, vnat j)], [(96, o96), (144, ⟨g144, 9, false, false, some [.agg [vi x.kind, .str x.cls, .str x.name, vi x.weight, vi x.level, .bool x.stairs, vi x.scale, vi x.hour, vi x.reader]]⟩), (480, o480), (176, ⟨g176, 7, false, false, some [.agg [vi a1, vi b1, vi c1, vi d1, .bool e1, .str f1, L1]]⟩), (688, ⟨g, 1, true, false, some [.lit 4 (ks1.map Kno.v), .lit 4 (ks2.map Kno.v), .nils]⟩)]⟩ (roundS Q (fun j => ⟨[(5, p5), (7, .bool true), (8, .ptr 144 g144 0 0), (29, p29), (30, p30), (31, p31), (10, .ptr 176 g176 0 0), (42, .sl 688 g 0 3), (43, vnat 3), (44, vnat j)], [(96, o96), (144, ⟨g144, 9, false, false, some [.agg [vi x.kind, .str x.cls, .str x.name, vi x.weight, vi x.level, .bool x.stairs, vi x.scale, vi x.hour, vi x.reader]]⟩), (480, o480), (176, ⟨g176, 7, false, false, some [.agg [vi a1, vi b1, vi c1, vi d1, .bool e1, .str f1, L1]]⟩), (688, ⟨g, 1, true, false, some [.lit 4 (ks1.map Kno.v), .lit 4 (ks2.map Kno.v), .nils]⟩)]⟩) (fun j => j ≤ 3) (fun j => 3 - j) j) := by
  obtain ⟨sv, hget, hsv, hA⟩ := rounds_ev K1 K2 x j hj
  obtain ⟨lo, hi9, b9, fb, a8, b8, c8, d8, e8, f8, L8, r9, hL8, t1, t2, hp, hr, hri, hsm, ff1, ff2⟩ := hA e s1 ft
  rw [hv] at t1 t2 hp hr
  rcases hL with rfl | ⟨ys, rfl⟩ <;> rcases hsv with rfl | ⟨W, rfl⟩ <;> rcases hL8 with rfl | ⟨us, rfl⟩
  · exact rnd_nnn (us := []) (ys := []) (W := []) hj hget t1 t2 hp hr hri hsm ff1 ff2
  · exact rnd_nnl (ys := []) (W := []) hj hget t1 t2 hp hr hri hsm ff1 ff2
  · exact rnd_nln (us := []) (ys := []) hj hget t1 t2 hp hr hri hsm ff1 ff2
  · exact rnd_nll (ys := []) hj hget t1 t2 hp hr hri hsm ff1 ff2
  · exact rnd_lnn (us := []) (W := []) hj hget t1 t2 hp hr hri hsm ff1 ff2
  · exact rnd_lnl (W := []) hj hget t1 t2 hp hr hri hsm ff1 ff2
  · exact rnd_lln (us := []) hj hget t1 t2 hp hr hri hsm ff1 ff2
  · exact rnd_lll hj hget t1 t2 hp hr hri hsm ff1 ff2
set_option maxHeartbeats 8000000 in
theorem law_core_n {l env kn : List Int} {raw ks1 ks2 : List Kno} {q0 q1 q2 : Int} {x : Envi} {e1 e2 : Ex} {r2 : V} {a1 b1 c1 d1 : Int} {e1' : Bool} {f1' : Str} {ys : List V} {a2 b2 c2 d2 : Int} {e2' : Bool} {f2' : Str} {zs : List V}
    (hsan : Ev E 311 [] ⟨.bool true, []⟩) (hx : Ev E 312 [.lit 1 (env.map vi)] ⟨x.v, []⟩)
    (hab : Ev E 315 [x.v, .lit 1 (kn.map vi)] ⟨.own 4 (ks1.map Kno.v), []⟩) (hcu : Ev E 316 [.lit 4 (raw.map Kno.v)] ⟨.own 4 (ks2.map Kno.v), []⟩)
    (K1 : KFit ks1) (K2 : KFit ks2) (hv1 : e1.v = .agg [vi a1, vi b1, vi c1, vi d1, .bool e1', .str f1', .lit 7 ys]) (hv2 : e2.v = .agg [vi a2, vi b2, vi c2, vi d2, .bool e2', .str f2', .nils]) (s1 : e1.size < 1000000) (f1 : e1.Fit) (s2 : e2.size < 1000000) (f2 : e2.Fit)
    (he1 : Ev E 313 [.lit 1 (l.map vi)] ⟨.agg [vi a1, vi b1, vi c1, vi d1, .bool e1', .str f1', .lit 7 ys], []⟩)
    (ho : Ev E 314 [.agg [vi a1, vi b1, vi c1, vi d1, .bool e1', .str f1', .lit 7 ys], .agg [vi q0, vi q1, vi q2]] ⟨r2, []⟩) (hi2 : ∀ r k, importRes2 false r [] r2 k = k e2.v) :
    Ev E 309 [.lit 1 (l.map vi), .agg [vi q0, vi q1, vi q2], .agg [.lit 1 (env.map vi), .lit 1 (kn.map vi), .lit 4 (raw.map Kno.v)]] ⟨.bool true, []⟩ := by
  rw [hv2] at hi2
  have hxv : x.v = .agg [vi x.kind, .str x.cls, .str x.name, vi x.weight, vi x.level, .bool x.stairs, vi x.scale, vi x.hour, vi x.reader] := rfl
  rw [hxv] at hx hab
  refine Ev.of_s' E_309 (X_309 _) rfl ?_
  (conv => whnf); repeat' ((first | intro g | refine CallS.mk _ (hsan) ?_ | refine CallS.mk _ (hx) ?_ | refine CallS.mk _ (he1) ?_ | refine st ?_ | (first | refine b1 ?_ ?_ | refine b2 ?_ ?_ | refine Br.mk ?_ ?_) <;> intro hc | exact rfl | ((refine CallS.mk _ ho ?_; simp only [putOuts2, hi2, List.append_nil]))) <;> conv => whnf)
  rename_i g80 g96 g144
  obtain ⟨g480, hg480⟩ : ∃ x, x = g := ⟨_, rfl⟩
  rw [← hg480]; clear hg480
  refine LoopS.by (fun (i : Nat) => ⟨[(5, .ptr 96 g96 0 0), (7, .bool true), (8, .ptr 144 g144 0 0), (29, .sl 480 g480 0 2), (30, vnat 2), (31, vnat i)], [(96, ⟨g96, 3, false, false, some [.agg [.lit 1 (env.map vi), .lit 1 (kn.map vi), .lit 4 (raw.map Kno.v)]]⟩), (144, ⟨g144, 9, false, false, some [.agg [vi x.kind, .str x.cls, .str x.name, vi x.weight, vi x.level, .bool x.stairs, vi x.scale, vi x.hour, vi x.reader]]⟩), (480, ⟨g480, 7, true, false, some [.agg [vi a1, vi b1, vi c1, vi d1, .bool e1', .str f1', .lit 7 ys], .agg [vi a2, vi b2, vi c2, vi d2, .bool e2', .str f2', .nils]]⟩)]⟩) (fun i => i ≤ 2) (fun i => 2 - i) 0 (by (refine ⟨?_, ?_⟩ <;> repeat' (first | exact True.intro | refine ai ?_ | refine And.intro ?_ ?_))) (by simp) ?_
  rintro i hi
  clear hsan hx he1 ho hi2
  have hi2 : i = 0 ∨ i = 1 ∨ i = 2 := by omega
  rcases hi2 with rfl | rfl | rfl
  · (conv => whnf); repeat' ((first | intro g | refine Wit.mk _ (rfl) ?_ | refine CallS.mk _ (hab) ?_ | refine CallS.mk _ (hcu) ?_ | refine st ?_ | (first | refine b1 ?_ ?_ | refine b2 ?_ ?_ | refine Br.mk ?_ ?_) <;> intro hc | exact rfl) <;> conv => whnf)
    rename_i g176
    clear hab hcu
    refine LoopS.by (fun (j : Nat) => ⟨[(5, .ptr 96 g96 0 0), (7, .bool true), (8, .ptr 144 g144 0 0), (29, .sl 480 g480 0 2), (30, vnat 2), (31, vi 0), (10, .ptr 176 g176 0 0), (42, .sl 688 g 0 3), (43, vnat 3), (44, vnat j)], [(96, ⟨g96, 3, false, false, some [.agg [.lit 1 (env.map vi), .lit 1 (kn.map vi), .lit 4 (raw.map Kno.v)]]⟩), (144, ⟨g144, 9, false, false, some [.agg [vi x.kind, .str x.cls, .str x.name, vi x.weight, vi x.level, .bool x.stairs, vi x.scale, vi x.hour, vi x.reader]]⟩), (480, ⟨g480, 7, true, false, some [.agg [vi a1, vi b1, vi c1, vi d1, .bool e1', .str f1', .lit 7 ys], .agg [vi a2, vi b2, vi c2, vi d2, .bool e2', .str f2', .nils]]⟩), (176, ⟨g176, 7, false, false, some [.agg [vi a1, vi b1, vi c1, vi d1, .bool e1', .str f1', .lit 7 ys]]⟩), (688, ⟨g, 1, true, false, some [.lit 4 (ks1.map Kno.v), .lit 4 (ks2.map Kno.v), .nils]⟩)]⟩) (fun j => j ≤ 3) (fun j => 3 - j) 0 (by (refine ⟨?_, ?_⟩ <;> repeat' (first | exact True.intro | refine ai ?_ | refine And.intro ?_ ?_))) (by simp) ?_
    rintro j hj
    by_cases hlt : j < 3
    · exact rnd_all K1 K2 hlt hv1 (.inr ⟨_, rfl⟩) s1 f1
    · obtain rfl : j = 3 := by omega
      (conv => whnf); repeat' ((first | intro g | refine st ?_ | (first | refine b1 ?_ ?_ | refine b2 ?_ ?_ | refine Br.mk ?_ ?_) <;> intro hc | exact rfl) <;> conv => whnf)
      exact NxtS.mk 1 (by first | omega | (dsimp only; omega)) (by omega) (by (refine ⟨?_, ?_⟩ <;> repeat' (first | exact True.intro | refine ai ?_ | refine And.intro ?_ ?_)))
  · (conv => whnf); repeat' ((first | intro g | refine Wit.mk _ (rfl) ?_ | refine CallS.mk _ (hab) ?_ | refine CallS.mk _ (hcu) ?_ | refine st ?_ | (first | refine b1 ?_ ?_ | refine b2 ?_ ?_ | refine Br.mk ?_ ?_) <;> intro hc | exact rfl) <;> conv => whnf)
    rename_i g176
    clear hab hcu
    refine LoopS.by (fun (j : Nat) => ⟨[(5, .ptr 96 g96 0 0), (7, .bool true), (8, .ptr 144 g144 0 0), (29, .sl 480 g480 0 2), (30, vnat 2), (31, vi 1), (10, .ptr 176 g176 0 0), (42, .sl 688 g 0 3), (43, vnat 3), (44, vnat j)], [(96, ⟨g96, 3, false, false, some [.agg [.lit 1 (env.map vi), .lit 1 (kn.map vi), .lit 4 (raw.map Kno.v)]]⟩), (144, ⟨g144, 9, false, false, some [.agg [vi x.kind, .str x.cls, .str x.name, vi x.weight, vi x.level, .bool x.stairs, vi x.scale, vi x.hour, vi x.reader]]⟩), (480, ⟨g480, 7, true, false, some [.agg [vi a1, vi b1, vi c1, vi d1, .bool e1', .str f1', .lit 7 ys], .agg [vi a2, vi b2, vi c2, vi d2, .bool e2', .str f2', .nils]]⟩), (176, ⟨g176, 7, false, false, some [.agg [vi a2, vi b2, vi c2, vi d2, .bool e2', .str f2', .nils]]⟩), (688, ⟨g, 1, true, false, some [.lit 4 (ks1.map Kno.v), .lit 4 (ks2.map Kno.v), .nils]⟩)]⟩) (fun j => j ≤ 3) (fun j => 3 - j) 0 (by (refine ⟨?_, ?_⟩ <;> repeat' (first | exact True.intro | refine ai ?_ | refine And.intro ?_ ?_))) (by simp) ?_
    rintro j hj
    by_cases hlt : j < 3
    · exact rnd_all K1 K2 hlt hv2 (.inl rfl) s2 f2
    · obtain rfl : j = 3 := by omega
      (conv => whnf); repeat' ((first | intro g | refine st ?_ | (first | refine b1 ?_ ?_ | refine b2 ?_ ?_ | refine Br.mk ?_ ?_) <;> intro hc | exact rfl) <;> conv => whnf)
      exact NxtS.mk 2 (by first | omega | (dsimp only; omega)) (by omega) (by (refine ⟨?_, ?_⟩ <;> repeat' (first | exact True.intro | refine ai ?_ | refine And.intro ?_ ?_)))
  · (conv => whnf); repeat' ((first | intro g | refine st ?_ | (first | refine b1 ?_ ?_ | refine b2 ?_ ?_ | refine Br.mk ?_ ?_) <;> intro hc | exact rfl) <;> conv => whnf)
set_option maxHeartbeats 8000000 in
theorem law_core_l {l env kn : List Int} {raw ks1 ks2 : List Kno} {q0 q1 q2 : Int} {x : Envi} {e1 e2 : Ex} {r2 : V} {a1 b1 c1 d1 : Int} {e1' : Bool} {f1' : Str} {ys : List V} {a2 b2 c2 d2 : Int} {e2' : Bool} {f2' : Str} {zs : List V}
    (hsan : Ev E 311 [] ⟨.bool true, []⟩) (hx : Ev E 312 [.lit 1 (env.map vi)] ⟨x.v, []⟩)
    (hab : Ev E 315 [x.v, .lit 1 (kn.map vi)] ⟨.own 4 (ks1.map Kno.v), []⟩) (hcu : Ev E 316 [.lit 4 (raw.map Kno.v)] ⟨.own 4 (ks2.map Kno.v), []⟩)
    (K1 : KFit ks1) (K2 : KFit ks2) (hv1 : e1.v = .agg [vi a1, vi b1, vi c1, vi d1, .bool e1', .str f1', .lit 7 ys]) (hv2 : e2.v = .agg [vi a2, vi b2, vi c2, vi d2, .bool e2', .str f2', .lit 7 zs]) (s1 : e1.size < 1000000) (f1 : e1.Fit) (s2 : e2.size < 1000000) (f2 : e2.Fit)
    (he1 : Ev E 313 [.lit 1 (l.map vi)] ⟨.agg [vi a1, vi b1, vi c1, vi d1, .bool e1', .str f1', .lit 7 ys], []⟩)
    (ho : Ev E 314 [.agg [vi a1, vi b1, vi c1, vi d1, .bool e1', .str f1', .lit 7 ys], .agg [vi q0, vi q1, vi q2]] ⟨r2, []⟩) (hi2 : ∀ r k, importRes2 false r [] r2 k = k e2.v) :
    Ev E 309 [.lit 1 (l.map vi), .agg [vi q0, vi q1, vi q2], .agg [.lit 1 (env.map vi), .lit 1 (kn.map vi), .lit 4 (raw.map Kno.v)]] ⟨.bool true, []⟩ := by
  rw [hv2] at hi2
  have hxv : x.v = .agg [vi x.kind, .str x.cls, .str x.name, vi x.weight, vi x.level, .bool x.stairs, vi x.scale, vi x.hour, vi x.reader] := rfl
  rw [hxv] at hx hab
  refine Ev.of_s' E_309 (X_309 _) rfl ?_
  (conv => whnf); repeat' ((first | intro g | refine CallS.mk _ (hsan) ?_ | refine CallS.mk _ (hx) ?_ | refine CallS.mk _ (he1) ?_ | refine st ?_ | (first | refine b1 ?_ ?_ | refine b2 ?_ ?_ | refine Br.mk ?_ ?_) <;> intro hc | exact rfl | ((refine CallS.mk _ ho ?_; simp only [putOuts2, hi2, List.append_nil]))) <;> conv => whnf)
  rename_i g80 g96 g144
  obtain ⟨g480, hg480⟩ : ∃ x, x = g := ⟨_, rfl⟩
  rw [← hg480]; clear hg480
  refine LoopS.by (fun (i : Nat) => ⟨[(5, .ptr 96 g96 0 0), (7, .bool true), (8, .ptr 144 g144 0 0), (29, .sl 480 g480 0 2), (30, vnat 2), (31, vnat i)], [(96, ⟨g96, 3, false, false, some [.agg [.lit 1 (env.map vi), .lit 1 (kn.map vi), .lit 4 (raw.map Kno.v)]]⟩), (144, ⟨g144, 9, false, false, some [.agg [vi x.kind, .str x.cls, .str x.name, vi x.weight, vi x.level, .bool x.stairs, vi x.scale, vi x.hour, vi x.reader]]⟩), (480, ⟨g480, 7, true, false, some [.agg [vi a1, vi b1, vi c1, vi d1, .bool e1', .str f1', .lit 7 ys], .agg [vi a2, vi b2, vi c2, vi d2, .bool e2', .str f2', .lit 7 zs]]⟩)]⟩) (fun i => i ≤ 2) (fun i => 2 - i) 0 (by (refine ⟨?_, ?_⟩ <;> repeat' (first | exact True.intro | refine ai ?_ | refine And.intro ?_ ?_))) (by simp) ?_
  rintro i hi
  clear hsan hx he1 ho hi2
  have hi2 : i = 0 ∨ i = 1 ∨ i = 2 := by omega
  rcases hi2 with rfl | rfl | rfl
  · (conv => whnf); repeat' ((first | intro g | refine Wit.mk _ (rfl) ?_ | refine CallS.mk _ (hab) ?_ | refine CallS.mk _ (hcu) ?_ | refine st ?_ | (first | refine b1 ?_ ?_ | refine b2 ?_ ?_ | refine Br.mk ?_ ?_) <;> intro hc | exact rfl) <;> conv => whnf)
    rename_i g176
    clear hab hcu
    refine LoopS.by (fun (j : Nat) => ⟨[(5, .ptr 96 g96 0 0), (7, .bool true), (8, .ptr 144 g144 0 0), (29, .sl 480 g480 0 2), (30, vnat 2), (31, vi 0), (10, .ptr 176 g176 0 0), (42, .sl 688 g 0 3), (43, vnat 3), (44, vnat j)], [(96, ⟨g96, 3, false, false, some [.agg [.lit 1 (env.map vi), .lit 1 (kn.map vi), .lit 4 (raw.map Kno.v)]]⟩), (144, ⟨g144, 9, false, false, some [.agg [vi x.kind, .str x.cls, .str x.name, vi x.weight, vi x.level, .bool x.stairs, vi x.scale, vi x.hour, vi x.reader]]⟩), (480, ⟨g480, 7, true, false, some [.agg [vi a1, vi b1, vi c1, vi d1, .bool e1', .str f1', .lit 7 ys], .agg [vi a2, vi b2, vi c2, vi d2, .bool e2', .str f2', .lit 7 zs]]⟩), (176, ⟨g176, 7, false, false, some [.agg [vi a1, vi b1, vi c1, vi d1, .bool e1', .str f1', .lit 7 ys]]⟩), (688, ⟨g, 1, true, false, some [.lit 4 (ks1.map Kno.v), .lit 4 (ks2.map Kno.v), .nils]⟩)]⟩) (fun j => j ≤ 3) (fun j => 3 - j) 0 (by (refine ⟨?_, ?_⟩ <;> repeat' (first | exact True.intro | refine ai ?_ | refine And.intro ?_ ?_))) (by simp) ?_
    rintro j hj
    by_cases hlt : j < 3
    · exact rnd_all K1 K2 hlt hv1 (.inr ⟨_, rfl⟩) s1 f1
    · obtain rfl : j = 3 := by omega
      (conv => whnf); repeat' ((first | intro g | refine st ?_ | (first | refine b1 ?_ ?_ | refine b2 ?_ ?_ | refine Br.mk ?_ ?_) <;> intro hc | exact rfl) <;> conv => whnf)
      exact NxtS.mk 1 (by first | omega | (dsimp only; omega)) (by omega) (by (refine ⟨?_, ?_⟩ <;> repeat' (first | exact True.intro | refine ai ?_ | refine And.intro ?_ ?_)))
  · (conv => whnf); repeat' ((first | intro g | refine Wit.mk _ (rfl) ?_ | refine CallS.mk _ (hab) ?_ | refine CallS.mk _ (hcu) ?_ | refine st ?_ | (first | refine b1 ?_ ?_ | refine b2 ?_ ?_ | refine Br.mk ?_ ?_) <;> intro hc | exact rfl) <;> conv => whnf)
    rename_i g176
    clear hab hcu
    refine LoopS.by (fun (j : Nat) => ⟨[(5, .ptr 96 g96 0 0), (7, .bool true), (8, .ptr 144 g144 0 0), (29, .sl 480 g480 0 2), (30, vnat 2), (31, vi 1), (10, .ptr 176 g176 0 0), (42, .sl 688 g 0 3), (43, vnat 3), (44, vnat j)], [(96, ⟨g96, 3, false, false, some [.agg [.lit 1 (env.map vi), .lit 1 (kn.map vi), .lit 4 (raw.map Kno.v)]]⟩), (144, ⟨g144, 9, false, false, some [.agg [vi x.kind, .str x.cls, .str x.name, vi x.weight, vi x.level, .bool x.stairs, vi x.scale, vi x.hour, vi x.reader]]⟩), (480, ⟨g480, 7, true, false, some [.agg [vi a1, vi b1, vi c1, vi d1, .bool e1', .str f1', .lit 7 ys], .agg [vi a2, vi b2, vi c2, vi d2, .bool e2', .str f2', .lit 7 zs]]⟩), (176, ⟨g176, 7, false, false, some [.agg [vi a2, vi b2, vi c2, vi d2, .bool e2', .str f2', .lit 7 zs]]⟩), (688, ⟨g, 1, true, false, some [.lit 4 (ks1.map Kno.v), .lit 4 (ks2.map Kno.v), .nils]⟩)]⟩) (fun j => j ≤ 3) (fun j => 3 - j) 0 (by (refine ⟨?_, ?_⟩ <;> repeat' (first | exact True.intro | refine ai ?_ | refine And.intro ?_ ?_))) (by simp) ?_
    rintro j hj
    by_cases hlt : j < 3
    · exact rnd_all K1 K2 hlt hv2 (.inr ⟨_, rfl⟩) s2 f2
    · obtain rfl : j = 3 := by omega
      (conv => whnf); repeat' ((first | intro g | refine st ?_ | (first | refine b1 ?_ ?_ | refine b2 ?_ ?_ | refine Br.mk ?_ ?_) <;> intro hc | exact rfl) <;> conv => whnf)
      exact NxtS.mk 2 (by first | omega | (dsimp only; omega)) (by omega) (by (refine ⟨?_, ?_⟩ <;> repeat' (first | exact True.intro | refine ai ?_ | refine And.intro ?_ ?_)))
  · (conv => whnf); repeat' ((first | intro g | refine st ?_ | (first | refine b1 ?_ ?_ | refine b2 ?_ ?_ | refine Br.mk ?_ ?_) <;> intro hc | exact rfl) <;> conv => whnf)
end Go.AM
set_option maxRecDepth 20000
namespace Go.AM
theorem partialExpr_ev {l env kn : List Int} {raw : List Kno} (q0 q1 q2 : Int) (hl : l.length < 9223372036854775808) (henv : env.length < 9223372036854775808) (hkn : kn.length < 9223372036854775808)
    (hraw : raw.length < 9223372036854775808) (hraw2 : ∀ k ∈ raw, k.texts.length < 9223372036854775808 ∧ ∀ s ∈ k.texts, s.length < 9223372036854775808) :
    Ev E 309 [.lit 1 (l.map vi), .agg [vi q0, vi q1, vi q2], .agg [.lit 1 (env.map vi), .lit 1 (kn.map vi), .lit 4 (raw.map Kno.v)]] ⟨.bool true, []⟩ := by
  obtain ⟨x, hxo, hx⟩ := env_ev henv
  obtain ⟨e1, q, b, c, w, o, f, ys, hf1, hs1, ht1, hv1, he1⟩ := expr_ev hl
  obtain ⟨r2, e2, ho, hor, hf2, hs2⟩ := odd_ev e1 q0 q1 q2 hs1 hf1
  rw [hv1] at ho
  obtain ⟨ks1, hk1, hk1s, hab⟩ := about_ev x hxo hkn
  obtain ⟨ks2, hk2, hk2s, hcu⟩ := cut_ev hraw hraw2
  obtain ⟨a2, b2, c2, d2, e2', f2', L2, hv2, hL2⟩ := e2.form
  rcases hL2 with rfl | ⟨zs, rfl⟩
  · exact law_core_n (zs := []) sanity_ev hx hab hcu (kfit_of hk1 hk1s) (kfit_of hk2 hk2s) hv1 hv2 (by omega) hf1 (by omega) hf2 he1 ho (fun r k => odd_imp hor r k)
  · exact law_core_l sanity_ev hx hab hcu (kfit_of hk1 hk1s) (kfit_of hk2 hk2s) hv1 hv2 (by omega) hf1 (by omega) hf2 he1 ho (fun r k => odd_imp hor r k)
end Go.AM
namespace Go.AM
open Go.ChangeShapes Go.WideShapes Go.ChangeAt Go.RowKit Go.Proofs Go.Proofs.YtjmcpijpclfakaaGreat
theorem below_kept {W W' : World} (h : Below W.heap.size W W') (may : MemPlace → Prop) : W.keptBut W' may := by
  have := (World.keptBut_refl W may).2.2
  refine ⟨h.os, h.output, fun i hi => ?_⟩
  rw [h.block i hi]
  exact this i hi
theorem ownPe : ownKnob Tryz.prog.godebug = none := by kernel_rfl
def SPe : List TypeId := [22, 23, 26, 24, 65, 63, 3, 9]
theorem plainPe : SPe.all (plainT X0.P SPe) = true := by kernel_rfl
theorem laidPe : laidOutB Tryz.prog = true := by kernel_rfl
theorem cell3 : X0.P.cellsOf 3 = 1 := by kernel_rfl
theorem c9 : X0.P.cellsOf 9 = 1 := by kernel_rfl
theorem c65 : X0.P.cellsOf 65 = 4 := by kernel_rfl
theorem int_of {n : Nat} {us : List V} (h : TV X0.P n 3 us) : ∃ x : Int, us = [vi x] := by
  have u3 : X0.P.underlying 3 = _ := Tryz.underlying3
  cases n with
  | zero => simp [TV] at h
  | succ n =>
    simp only [TV, u3] at h
    obtain ⟨x, rfl, hw⟩ := h
    exact ⟨x, rfl⟩
theorem str_of {n : Nat} {us : List V} (h : TV X0.P n 9 us) : ∃ x : Str, us = [.str x] ∧ x.length ≤ maxLen := by
  have u9 : X0.P.underlying 9 = _ := Tryz.underlying9
  cases n with
  | zero => simp [TV] at h
  | succ n =>
    simp only [TV, u9] at h
    obtain ⟨x, rfl, hw⟩ := h
    exact ⟨x, rfl, hw⟩
theorem arr3_of {n : Nat} {us : List V} (h : TV X0.P n 23 us) : ∃ a b c : Int, us = [vi a, vi b, vi c] := by
  have u23 : X0.P.underlying 23 = _ := Tryz.underlying23
  cases n with
  | zero => simp [TV] at h
  | succ n =>
    simp only [TV, u23, TVA, cell3] at h
    obtain ⟨a, b, rfl, h1, h2, a', b', rfl, h3, h4, a'', b'', rfl, h5, h6, rfl⟩ := h
    obtain ⟨x, rfl⟩ := int_of h2
    obtain ⟨y, rfl⟩ := int_of h4
    obtain ⟨z, rfl⟩ := int_of h6
    exact ⟨x, y, z, rfl⟩
theorem nil_lit {X : Ctx} {μ : Mu} {sz : Nat} {v : Value} (h : VRel X μ .nils v) : VRel X μ (.lit sz []) v := by
  simp only [VRel] at h ⊢
  obtain ⟨a, rfl⟩ := h
  exact ⟨rfl, rfl, a, 0, [], rfl, Nat.le_refl _, by simp [VRels], .inl trivial⟩
theorem nil_or {X : Ctx} {μ : Mu} {sz : Nat} {a : V} {l : List V} {v : Value} (ha : a = .nils ∧ l = [] ∨ a = .lit sz l) (h : VRel X μ a v) : VRel X μ (.lit sz l) v := by
  rcases ha with ⟨rfl, rfl⟩ | rfl
  · exact nil_lit h
  · exact h
theorem ints_of {n : Nat} {us : List V} (h : TV X0.P n 22 us) : ∃ (l : List Int) (a : V), l.length ≤ maxLen ∧ us = [a] ∧ (a = .nils ∧ l.map vi = [] ∨ a = .lit 1 (l.map vi)) := by
  have u22 : X0.P.underlying 22 = _ := Tryz.underlying22
  have u3 : X0.P.underlying 3 = _ := Tryz.underlying3
  cases n with
  | zero => simp [TV] at h
  | succ n =>
    simp only [TV, u22, cell3] at h
    rcases h with rfl | ⟨xs, rfl, hml, hx⟩
    · exact ⟨[], _, by simp, rfl, .inl ⟨rfl, rfl⟩⟩
    · have : ∃ l : List Int, xs = l.map vi := by
        clear u22 hml
        induction xs with
        | nil => exact ⟨[], rfl⟩
        | cons x xs ih =>
          obtain ⟨l, hl⟩ := ih (fun y hy => hx y (by simp [hy]))
          obtain ⟨ws, h1, h2⟩ := hx x (by simp)
          obtain ⟨p, rfl⟩ := int_of h1
          exact ⟨p :: l, by simp [hl, h2, mkEl, u3]⟩
      obtain ⟨l, rfl⟩ := this
      exact ⟨l, _, by simpa using hml, rfl, .inr rfl⟩
theorem strs_of {n : Nat} {us : List V} (h : TV X0.P n 63 us) : ∃ (nt : Bool) (l : List Str), l.length ≤ maxLen ∧ (∀ s ∈ l, s.length ≤ maxLen) ∧ us = [slS nt l] := by
  have u63 : X0.P.underlying 63 = _ := Tryz.underlying63
  have u9 : X0.P.underlying 9 = _ := Tryz.underlying9
  cases n with
  | zero => simp [TV] at h
  | succ n =>
    simp only [TV, u63, c9] at h
    rcases h with rfl | ⟨xs, rfl, hml, hx⟩
    · exact ⟨true, [], by simp, by simp, rfl⟩
    · have : ∃ l : List Str, xs = l.map V.str ∧ ∀ s ∈ l, s.length ≤ maxLen := by
        clear u63 hml
        induction xs with
        | nil => exact ⟨[], rfl, by simp⟩
        | cons x xs ih =>
          obtain ⟨l, hl, hl2⟩ := ih (fun y hy => hx y (by simp [hy]))
          obtain ⟨ws, h1, h2⟩ := hx x (by simp)
          obtain ⟨p, rfl, hp⟩ := str_of h1
          refine ⟨p :: l, by simp [hl, h2, mkEl, u9], fun s hs => ?_⟩
          rcases List.mem_cons.1 hs with rfl | hs
          · exact hp
          · exact hl2 s hs
      obtain ⟨l, rfl, hl⟩ := this
      refine ⟨false, l, by simpa using hml, hl, ?_⟩
      cases l <;> rfl
theorem known_of {n : Nat} {us : List V} (h : TV X0.P n 65 us) : ∃ k : Kno, (k.texts.length ≤ maxLen ∧ ∀ s ∈ k.texts, s.length ≤ maxLen) ∧ .agg us = k.v := by
  have u65 : X0.P.underlying 65 = _ := Tryz.underlying65
  cases n with
  | zero => simp [TV] at h
  | succ n =>
    simp only [TV, u65] at h
    obtain ⟨a, b, rfl, h1, h2, a', b', rfl, h3, h4, a'', b'', rfl, h5, h6, a3, b3, rfl, h7, h8, rfl⟩ := h
    obtain ⟨x, rfl⟩ := int_of h2
    obtain ⟨y, rfl⟩ := int_of h4
    obtain ⟨z, rfl⟩ := int_of h6
    obtain ⟨nt, l, k1, k2, rfl⟩ := strs_of h8
    exact ⟨⟨x, y, z, nt, l⟩, ⟨k1, k2⟩, rfl⟩
theorem knows_of {n : Nat} {us : List V} (h : TV X0.P n 24 us) : ∃ (raw : List Kno) (a : V), raw.length ≤ maxLen ∧ (∀ k ∈ raw, k.texts.length ≤ maxLen ∧ ∀ s ∈ k.texts, s.length ≤ maxLen) ∧
    us = [a] ∧ (a = .nils ∧ raw.map Kno.v = [] ∨ a = .lit 4 (raw.map Kno.v)) := by
  have u24 : X0.P.underlying 24 = _ := Tryz.underlying24
  have u65 : X0.P.underlying 65 = _ := Tryz.underlying65
  cases n with
  | zero => simp [TV] at h
  | succ n =>
    simp only [TV, u24, c65] at h
    rcases h with rfl | ⟨xs, rfl, hml, hx⟩
    · exact ⟨[], _, by simp, by simp, rfl, .inl ⟨rfl, rfl⟩⟩
    · have : ∃ l : List Kno, xs = l.map Kno.v ∧ ∀ k ∈ l, k.texts.length ≤ maxLen ∧ ∀ s ∈ k.texts, s.length ≤ maxLen := by
        clear u24 hml
        induction xs with
        | nil => exact ⟨[], rfl, by simp⟩
        | cons x xs ih =>
          obtain ⟨l, hl, hl2⟩ := ih (fun y hy => hx y (by simp [hy]))
          obtain ⟨ws, h1, h2⟩ := hx x (by simp)
          obtain ⟨p, hp, hv⟩ := known_of h1
          have h2' : x = p.v := by rw [← hv, h2]; simp [mkEl, u65]
          refine ⟨p :: l, by simp [hl, h2'], fun s hs => ?_⟩
          rcases List.mem_cons.1 hs with rfl | hs
          · exact hp
          · exact hl2 s hs
      obtain ⟨l, rfl, hl⟩ := this
      exact ⟨l, _, by simpa using hml, hl, rfl, .inr rfl⟩
theorem case_of {n : Nat} {us : List V} (h : TV X0.P n 26 us) : ∃ (env kn : List Int) (raw : List Kno) (a b c : V), us = [a, b, c] ∧ env.length ≤ maxLen ∧ kn.length ≤ maxLen ∧ raw.length ≤ maxLen ∧
    (∀ k ∈ raw, k.texts.length ≤ maxLen ∧ ∀ s ∈ k.texts, s.length ≤ maxLen) ∧
    (a = .nils ∧ env.map vi = [] ∨ a = .lit 1 (env.map vi)) ∧ (b = .nils ∧ kn.map vi = [] ∨ b = .lit 1 (kn.map vi)) ∧ (c = .nils ∧ raw.map Kno.v = [] ∨ c = .lit 4 (raw.map Kno.v)) := by
  have u26 : X0.P.underlying 26 = _ := Tryz.underlying26
  cases n with
  | zero => simp [TV] at h
  | succ n =>
    simp only [TV, u26] at h
    obtain ⟨a, b, rfl, h1, h2, a', b', rfl, h3, h4, a'', b'', rfl, h5, h6, rfl⟩ := h
    obtain ⟨l1, v1, k1, rfl, e1⟩ := ints_of h2
    obtain ⟨l2, v2, k2, rfl, e2⟩ := ints_of h4
    obtain ⟨l3, v3, k3, k4, rfl, e3⟩ := knows_of h6
    exact ⟨l1, l2, l3, v1, v2, v3, rfl, k1, k2, k3, k4, e1, e2, e3⟩
theorem okWide_arr' {P : Program} {w : World} {r : Reach} {base : Nat} {t : TypeId} {v : Value} {k : Nat} {e : TypeId} (ht : P.underlying t = some (.array k e)) (h : Value.okWide P w r base t v) : ∃ cs, v = .agg cs := by
  simp only [Value.okWide, ht] at h
  obtain ⟨cs, h1, _⟩ := h
  exact ⟨cs, h1⟩
theorem okWide_struct' {P : Program} {w : World} {r : Reach} {base : Nat} {t : TypeId} {v : Value} {fs : Array Field} (ht : P.underlying t = some (.struct fs)) (h : Value.okWide P w r base t v) : ∃ cs, v = .agg cs := by
  simp only [Value.okWide, ht] at h
  obtain ⟨cs, h1, _⟩ := h
  exact ⟨cs, h1⟩
set_option maxRecDepth 100000 in
theorem expr_contract (H : Type) (enc : TypeId × Value → H) (W : World) (base : Nat) (args : Array Value) (ds gs : List (DataW H)) (before : List MemPlace)
    (hval : ∀ (j : Nat) t v, Tryz.f3.params[j]? = some t → args[j]? = some v → Value.okWide Tryz.prog W .any base t v)
    (hW : DataW.Whole enc Tryz.prog Tryz.f3.params.toList Rows.partialExprSpec.vars false W args.toList ds gs before) :
    Calls Tryz.prog 3 args W fun e W' => ∃ v, e = .returned v ∧ Rows.partialExprSpec.post enc Tryz.prog Tryz.f3 false true false false W args v W' := by
  have hW' := hW
  obtain ⟨p, q, hA0, hV, rfl, hfz, hnd⟩ := hW
  have hA : DataW.TrodAll enc Tryz.prog W 0 (fun _ => true) true Tryz.f3.params.toList args.toList ds p := hA0
  rw [Tryz.params3] at hA hval
  obtain ⟨v0, vs0, d0, ds0, p0, q0, hargs, rfl, rfl, h0, r0⟩ := trodAll_cons hA
  obtain ⟨v1, vs1, d1, ds1, p1, q1, rfl, rfl, rfl, h1, r1⟩ := trodAll_cons r0
  obtain ⟨v2, vs2, d2, ds2, p2, q2, rfl, rfl, rfl, h2, r2⟩ := trodAll_cons r1
  obtain ⟨rfl, rfl, rfl⟩ := trodAll_nil r2
  obtain rfl : args = #[v0, v1, v2] := by cases args; simp_all
  obtain ⟨rfl, rfl⟩ := trodVars_none hV
  clear hA0
  have hW2 := hW'
  simp only [List.append_nil] at hW'
  obtain ⟨a, len, cap, rfl⟩ := okWide_slice Tryz.underlying22 (hval 0 22 v0 rfl rfl)
  obtain ⟨c1, rfl⟩ := okWide_arr' Tryz.underlying23 (hval 1 23 v1 rfl rfl)
  obtain ⟨c2, rfl⟩ := okWide_struct' Tryz.underlying26 (hval 2 26 v2 rfl rfl)
  have h0k := h0; have h1k := h1; have h2k := h2
  obtain ⟨fuel0, hf0⟩ := h0
  obtain ⟨us0, g00, g01, g02, g03⟩ := trod_good (X := X0) plainPe fuel0 22 _ _ (by decide) hf0
  obtain ⟨l, a0, hl1, rfl, hl3⟩ := ints_of g00
  obtain ⟨fuel1, hf1⟩ := h1
  obtain ⟨us1, g10, g11, g12, g13⟩ := trod_good (X := X0) plainPe fuel1 23 _ _ (by decide) hf1
  obtain ⟨x1, x2, x3, rfl⟩ := arr3_of g10
  obtain ⟨fuel2, hf2⟩ := h2
  obtain ⟨us2, g20, g21, g22, g23⟩ := trod_good (X := X0) plainPe fuel2 26 _ _ (by decide) hf2
  obtain ⟨env, kn, raw, aE, aK, aR, rfl, hle, hlk, hlr, hlr2, hE3, hK3, hR3⟩ := case_of g20
  have hlt0 : ∀ x ∈ p0, x.block < W.heap.size := fun x hx => hW'.lt x (by simp [hx])
  have hlt1 : ∀ x ∈ p1, x.block < W.heap.size := fun x hx => hW'.lt x (by simp [hx])
  have hlt2 : ∀ x ∈ p2, x.block < W.heap.size := fun x hx => hW'.lt x (by simp [hx])
  have hm : maxLen < 9223372036854775808 := by decide
  have hag : ∀ {φ : Nat → Row} {cs : List V} {c : Array Value}, cs.all V.isCell = true → VRels (free X0) (still W φ) cs (Value.agg c).cells.toList → VRel (free X0) (still W φ) (.agg cs) (.agg c) := fun h1 h2 => by
    simp only [VRel]
    exact ⟨h1, _, rfl, h2⟩
  refine (law_calls (F := 3) envOk rfl Tryz.func3 (by kernel_rfl) rfl (partialExpr_ev (l := l) (env := env) (kn := kn) (raw := raw) x1 x2 x3 (by omega) (by omega) (by omega) (by omega)
      (fun k hk => by
        have := hlr2 k hk
        exact ⟨by omega, fun s hs => by have := this.2 s hs; omega⟩))
    (by simp only [V.arePure, V.isPure, AM.pures (f := vi) (fun _ => rfl), AM.pures Kno.pure, vi, Bool.and_self]) (vals := [.slice a len cap, .agg c1, .agg c2])
    (fun φ => by
      simp only [VRels]
      have e0 := g03 φ
      have b0 : (Value.slice a len cap).cells.toList = [Value.slice a len cap] := rfl
      rw [b0] at e0
      refine ⟨nil_or hl3 e0.1, hag rfl (g13 φ), hag rfl ?_, trivial⟩
      have e2 := g23 φ
      generalize (Value.agg c2).cells.toList = vs at e2
      match vs, e2 with
      | [w0, w1, w2], ⟨j0, j1, j2, _⟩ => exact ⟨nil_or hE3 j0, nil_or hK3 j1, nil_or hR3 j2, trivial⟩)).mono fun e W' ⟨he, hb, hz⟩ => ?_
  subst he
  refine ⟨_, rfl, post_of_same (pa := p0 ++ (p1 ++ (p2 ++ []))) (pv := []) hW2 (fun _ _ _ => (trodAll_cons_mk (shut_bool Tryz.underlying4 _) trodAll_mk0))
    (fun sp hsp => (trodAll_cons_mk (WideElems.Trod_stays laidPe (by kernel_rfl) (of_decide_eq_true (by kernel_rfl)) h0k (fun x hx => hb.same (hlt0 x hx)) (fun x hx => hsp x (by simp [hx])))
      (trodAll_cons_mk (WideElems.Trod_stays laidPe (by kernel_rfl) (of_decide_eq_true (by kernel_rfl)) h1k (fun x hx => hb.same (hlt1 x hx)) (fun x hx => hsp x (by simp [hx])))
      (trodAll_cons_mk (WideElems.Trod_stays laidPe (by kernel_rfl) (of_decide_eq_true (by kernel_rfl)) h2k (fun x hx => hb.same (hlt2 x hx)) (fun x hx => hsp x (by simp [hx]))) trodAll_mk0)))) (fun _ _ => rfl) (by simp)
    (below_kept hb _) hz (ok_one (by kernel_rfl) rfl (okWide_bool_mk Tryz.underlying4 _))⟩
set_option maxRecDepth 100000 in
theorem expr_lifted (os : Os) (started : os.Started) (H : Type) (enc : TypeId × Value → H) :
    ReturnsInHanded {} Tryz.checked os 3 .any (Rows.partialExprSpec.pre6 enc Tryz.prog Tryz.f3 Rows.partialExprRow.domain false) (Rows.partialExprSpec.post enc Tryz.prog Tryz.f3 false true false false) := by
  refine returnsInHanded_of_change (C := Tryz.checked) ownPe started (by kernel_rfl) Tryz.func3
    (ChangeSpec.witness6 (enc := enc) (C := Tryz.checked) false ⟨#[], #[.slice none 0 0, .agg #[.int .i64 0, .int .i64 0, .int .i64 0], .agg #[.slice none 0 0, .slice none 0 0, .slice none 0 0]], []⟩ 8 (by kernel_rfl) (by kernel_rfl) (by kernel_rfl) (by kernel_rfl)) ?_
  intro W base args ds gs before hval hW _ _
  exact expr_contract H enc W base args ds gs before hval hW
theorem expr_over : Rows.partialExprRow.holds Tryz.pinned (OpenSpec.ofChange Rows.partialExprSpec) :=
  OpenClaim.holds_of_wide 3 Tryz.f3 rfl rfl rfl rfl rfl rfl rfl ⟨rfl, rfl, rfl, rfl, rfl⟩ rfl rfl rfl rfl rfl (by kernel_rfl) Tryz.func3 (by kernel_rfl)
    (of_decide_eq_true (by kernel_rfl)) (by unfold Func.isWrapper; first | (rw [if_pos (by decide +kernel)]; kernel_rfl) | (rw [if_neg (by decide +kernel)]; exact ⟨rfl, rfl⟩))
    (fun os started H enc _ => expr_lifted os started H enc)
end Go.AM
namespace Go.Proofs.YtjmcpijpclfakaaGreat
theorem partialExpr_holds : Rows.PartialExprSaid := Go.AM.expr_over
#print axioms partialExpr_holds
end Go.Proofs.YtjmcpijpclfakaaGreat
