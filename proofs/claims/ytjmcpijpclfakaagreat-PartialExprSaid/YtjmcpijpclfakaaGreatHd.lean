/-
  Texts of the proof, joined by program: PFacN. Own work.
-/
import Derived.Test.YtjmcpijpclfakaaGreatHc
set_option linter.unusedSimpArgs false
set_option linter.unusedVariables false
set_option maxRecDepth 20000
namespace Go.AM
theorem cloneN_ev : Ev E 373 [.nils] ⟨.own 4 [], []⟩ :=
  Ev.ext (by rw [X_373]; simp [cloneV])
set_option maxHeartbeats 2000000 in
theorem gatherN_ev {l : List Kno} (hl : KFit l) (h0 : l = []) : Ev E 339 [.nils] ⟨.mlit (esOf (factB l) 9), []⟩ := by
  have hlen := hl.len
  have lm : (l.map Kno.v).length = l.length := List.length_map ..
  have hKp : V.arePure (l.map Kno.v) = true := AM.pures Kno.pure l
  have hcl : Ev E 373 [.nils] ⟨.own 4 (l.map Kno.v), []⟩ := by rw [h0]; exact cloneN_ev
  refine Ev.of_s' E_339 (X_339 _) rfl ?_
  (conv => whnf); repeat' ((first | intro g | refine st ?_ | (first | refine b1 ?_ ?_ | refine b2 ?_ ?_ | refine Br.mk ?_ ?_) <;> intro hc | exact rfl) <;> conv => whnf)
  rename_i g176
  refine LoopS.by (fun ((n, g80) : Nat × Nat) => ⟨[(0, .nils), (3, .mp 176 g176), (4, .ptr 80 g80 0 0)], [(176, ⟨g176, 0, false, false, some (esOf (factB l) n)⟩), (80, ⟨g80, 1, false, false, some [vi ((n : Int) + 1)]⟩)]⟩)
    (fun (n, g80) => n ≤ 9) (fun (n, g80) => 9 - n) (0, g) (by (refine ⟨?_, ?_⟩ <;> repeat' (first | exact True.intro | refine ai ?_ | refine And.intro ?_ ?_))) (by simp) ?_
  rintro ⟨n, g80⟩ hn
  try dsimp only at hn
  by_cases hn9 : n < 9
  · obtain ⟨res, hdel, b, rest, hrest, rfl⟩ := kdelf_ev (l := l) ((n : Int) + 1) hlen
    rw [← lm] at hdel
    have hty := ptypeOf_ev ((n : Int) + 1)
    have e80 : ∀ g : Nat, (⟨g, 1, false, false, some [V.int .i64 (IntKind.i64.wrap ((n : Int) + 1 + 1))]⟩ : Obj) = ⟨g, 1, false, false, some [vi (((n + 1 : Nat) : Int) + 1)]⟩ := fun g => by rw [show IntKind.i64.wrap ((n : Int) + 1 + 1) = ((n + 1 : Nat) : Int) + 1 from (wrap64 (by omega) (by omega)).trans (by omega)]
    by_cases h3 : varT ((n : Int) + 1) = 3
    · rw [h3] at hty
      obtain ⟨w, hw, hres⟩ := ptexts_ev _ (own_fit (v := (n : Int) + 1) hl)
      have hOp : V.arePure ((ownOf ((n : Int) + 1) l).map Kno.v) = true := AM.pures Kno.pure _
      have hfb : factB l ((n : Int) + 1) = textsB (ownOf ((n : Int) + 1) l) := by simp [factB, h3]
      generalize ownOf ((n : Int) + 1) l = own at *
      have hB : textsB own = ⟨0, 0, true, textsW own, !(textsW own).isEmpty, true⟩ := rfl
      generalize textsW own = ws at hB
      rw [hB] at hfb hres
      have hput := fun W => esOf_put (factB l) n (w := W)
      rw [hfb] at hput
      have hws : ∃ W, (Bd.v ⟨0, 0, true, ws, !ws.isEmpty, true⟩ = .agg [vi 0, vi 0, W, .bool (!ws.isEmpty), .bool true]) ∧ (W = .nils ∧ w = .agg [vi 0, vi 0, .nils, .bool (!ws.isEmpty), .bool true] ∨ W = .lit 1 (ws.map V.str) ∧ (w = .agg [vi 0, vi 0, .lit 1 (ws.map V.str), .bool (!ws.isEmpty), .bool true] ∨ w = .agg [vi 0, vi 0, .own 1 (ws.map V.str), .bool (!ws.isEmpty), .bool true])) := by
        rcases hres with h | ⟨h0, h⟩
        · cases ws with
          | nil => exact ⟨.nils, rfl, .inl ⟨rfl, h⟩⟩
          | cons y ys => exact ⟨_, rfl, .inr ⟨rfl, .inl h⟩⟩
        · cases ws with
          | nil => simp [slS] at h0
          | cons y ys => exact ⟨_, rfl, .inr ⟨rfl, .inr h⟩⟩
      obtain ⟨W, hW, hw3⟩ := hws
      clear hres hB
      generalize (!ws.isEmpty) = so at *
      rw [hW] at hput
      rcases hw3 with ⟨rfl, rfl⟩ | ⟨rfl, rfl | rfl⟩
      all_goals
        (conv => whnf); repeat' ((first | intro g | refine Need.mk (⟨rfl, rfl, rfl, Nat.le_of_eq (Nat.zero_add _), hKp⟩) ?_ | refine Wit.mk _ (win_pre rfl) ?_ | refine Wit.mk _ (hput _ rfl) ?_ | refine CallS.mk _ (hcl) ?_ | refine CallS.mk _ (hdel) ?_ | refine CallS.mk _ (hty) ?_ | refine CallS.mk _ (hw) ?_ | refine st ?_ | (first | refine b1 ?_ ?_ | refine b2 ?_ ?_ | refine Br.mk ?_ ?_) <;> intro hc | exact rfl) <;> conv => whnf)
        exact NxtS.mk (n + 1, g) (by first | omega | (dsimp only; omega)) (by omega) (by (refine ⟨?_, ?_⟩ <;> repeat' (first | exact True.intro | refine And.intro (e80 _) ?_ | refine ai ?_ | refine And.intro ?_ ?_)))
    · have hfb : factB l ((n : Int) + 1) = rngB ((n : Int) + 1) l := by simp [factB, h3]
      unfold rngB at hfb
      rw [← ownLo_eq, ← ownHi_eq] at hfb
      have hOp : V.arePure ((ownOf ((n : Int) + 1) l).map Kno.v) = true := AM.pures Kno.pure _
      have hol := own_len ((n : Int) + 1) l
      generalize ownOf ((n : Int) + 1) l = own at *
      have hput := fun W => esOf_put (factB l) n (w := W)
      rw [hfb] at hput
      have hfr : fromV ((n : Int) + 1) = if varT ((n : Int) + 1) = 2 then 0 else -1073741824 := rfl
      have hto : toV ((n : Int) + 1) = if varT ((n : Int) + 1) = 2 then 1 else 1073741824 := rfl
      generalize fromV ((n : Int) + 1) = fr at *
      generalize toV ((n : Int) + 1) = to at *
      generalize varT ((n : Int) + 1) = t at *
      by_cases h2 : t = 2
      all_goals
        simp only [h2, if_true, if_false] at hfr hto
        subst hfr hto
        (conv => whnf); repeat' ((first | intro g | refine Need.mk (⟨rfl, rfl, rfl, Nat.le_of_eq (Nat.zero_add _), hKp⟩) ?_ | refine Wit.mk _ (win_pre rfl) ?_ | refine CallS.mk _ (hcl) ?_ | refine CallS.mk _ (hdel) ?_ | refine CallS.mk _ (hty) ?_ | refine CallS.mk _ (maybe_ev) ?_ | refine st ?_ | (first | refine b1 ?_ ?_ | refine b2 ?_ ?_ | refine Br.mk ?_ ?_) <;> intro hc | exact rfl) <;> conv => whnf)
      all_goals rename_i g272 g97 g112
      · refine LoopS.by (fun (i : Nat) => ⟨[(0, .nils), (3, .mp 176 g176), (4, .ptr 80 g80 0 0), (5, .sl 97 g97 0 own.length), (6, .ptr 112 g112 0 0), (7, .ptr 128 g 0 0), (32, .sl 97 g97 0 own.length), (33, vnat own.length), (34, vnat i)],
            [(176, ⟨g176, 0, false, false, some (esOf (factB l) n)⟩), (80, ⟨g80, 1, false, true, some [vi ((n : Int) + 1)]⟩), (97, ⟨g97, 4, true, false, some (own.map Kno.v ++ rest)⟩),
             (112, ⟨g112, 5, false, false, some [.agg [vi (ownLo (own.take i) (0)), vi (ownHi (own.take i) 1), .lit 1 [], .bool false, .bool false]]⟩), (128, ⟨g, 5, false, false, some [.agg [vi (0), vi 1, .lit 1 [], .bool false, .bool false]]⟩)]⟩)
          (fun i => i ≤ own.length) (fun i => own.length - i) 0 (by (refine ⟨?_, ?_⟩ <;> repeat' (first | exact True.intro | refine ai ?_ | refine And.intro ?_ ?_))) (by simp) ?_
        intro i hi
        by_cases hlt : i < own.length
        · have hx : own[i]? = some own[i] := get_lt hlt
          generalize own[i] = x at hx
          have h1 := ownLo_take (a := 0) hx
          have h2 := ownHi_take (a := 1) hx
          obtain ⟨tv, hxv, _⟩ := x.form4
          have hxw : (own.map Kno.v ++ rest)[((i : Nat) : Int).toNat]? = some x.v := by
            rw [List.getElem?_append_left (by simp; omega)]
            exact map_get hx rfl
          rw [hxv] at hxw
          have hlen2 : 0 + ((i : Nat) : Int).toNat < (own.map Kno.v ++ rest).length := by simp; omega
          (conv => whnf); repeat' ((first | intro g | refine Need.mk (hlen2) ?_ | refine Wit.mk _ (hxw) ?_ | refine Wit.mk _ ((by simpa using hxw)) ?_ | refine st ?_ | (first | refine b1 ?_ ?_ | refine b2 ?_ ?_ | refine Br.mk ?_ ?_) <;> intro hc | exact rfl) <;> conv => whnf)
          exact NxtS.mk (i + 1) (by first | omega | (dsimp only; omega)) (by omega) (by rw [h1, h2]; (refine ⟨?_, ?_⟩ <;> repeat' (first | exact True.intro | refine ai ?_ | refine And.intro ?_ ?_)))
        · obtain rfl : i = own.length := by omega
          rw [List.take_length]
          generalize ownLo own (0) = A at *
          generalize ownHi own 1 = B at *
          by_cases hAB : B < A
          · rw [if_pos hAB] at hput
            (conv => whnf); repeat' ((first | intro g | refine Wit.mk _ (hput _ rfl) ?_ | refine st ?_ | (first | refine b1 ?_ ?_ | refine b2 ?_ ?_ | refine Br.mk ?_ ?_) <;> intro hc | exact rfl) <;> conv => whnf)
            exact NxtS.mk (n + 1, g) (by first | omega | (dsimp only; omega)) (by omega) (by (refine ⟨?_, ?_⟩ <;> repeat' (first | exact True.intro | refine And.intro (e80 _) ?_ | refine ai ?_ | refine And.intro ?_ ?_)))
          · rw [if_neg hAB] at hput
            (conv => whnf); repeat' ((first | intro g | refine Wit.mk _ (hput _ rfl) ?_ | refine st ?_ | (first | refine b1 ?_ ?_ | refine b2 ?_ ?_ | refine Br.mk ?_ ?_) <;> intro hc | exact rfl) <;> conv => whnf)
            exact NxtS.mk (n + 1, g) (by first | omega | (dsimp only; omega)) (by omega) (by (refine ⟨?_, ?_⟩ <;> repeat' (first | exact True.intro | refine And.intro (e80 _) ?_ | refine ai ?_ | refine And.intro ?_ ?_)))
      · refine LoopS.by (fun (i : Nat) => ⟨[(0, .nils), (3, .mp 176 g176), (4, .ptr 80 g80 0 0), (5, .sl 97 g97 0 own.length), (6, .ptr 112 g112 0 0), (7, .ptr 128 g 0 0), (32, .sl 97 g97 0 own.length), (33, vnat own.length), (34, vnat i)],
            [(176, ⟨g176, 0, false, false, some (esOf (factB l) n)⟩), (80, ⟨g80, 1, false, true, some [vi ((n : Int) + 1)]⟩), (97, ⟨g97, 4, true, false, some (own.map Kno.v ++ rest)⟩),
             (112, ⟨g112, 5, false, false, some [.agg [vi (ownLo (own.take i) (-1073741824)), vi (ownHi (own.take i) 1073741824), .lit 1 [], .bool false, .bool false]]⟩), (128, ⟨g, 5, false, false, some [.agg [vi (-1073741824), vi 1073741824, .lit 1 [], .bool false, .bool false]]⟩)]⟩)
          (fun i => i ≤ own.length) (fun i => own.length - i) 0 (by (refine ⟨?_, ?_⟩ <;> repeat' (first | exact True.intro | refine ai ?_ | refine And.intro ?_ ?_))) (by simp) ?_
        intro i hi
        by_cases hlt : i < own.length
        · have hx : own[i]? = some own[i] := get_lt hlt
          generalize own[i] = x at hx
          have h1 := ownLo_take (a := -1073741824) hx
          have h2 := ownHi_take (a := 1073741824) hx
          obtain ⟨tv, hxv, _⟩ := x.form4
          have hxw : (own.map Kno.v ++ rest)[((i : Nat) : Int).toNat]? = some x.v := by
            rw [List.getElem?_append_left (by simp; omega)]
            exact map_get hx rfl
          rw [hxv] at hxw
          have hlen2 : 0 + ((i : Nat) : Int).toNat < (own.map Kno.v ++ rest).length := by simp; omega
          (conv => whnf); repeat' ((first | intro g | refine Need.mk (hlen2) ?_ | refine Wit.mk _ (hxw) ?_ | refine Wit.mk _ ((by simpa using hxw)) ?_ | refine st ?_ | (first | refine b1 ?_ ?_ | refine b2 ?_ ?_ | refine Br.mk ?_ ?_) <;> intro hc | exact rfl) <;> conv => whnf)
          exact NxtS.mk (i + 1) (by first | omega | (dsimp only; omega)) (by omega) (by rw [h1, h2]; (refine ⟨?_, ?_⟩ <;> repeat' (first | exact True.intro | refine ai ?_ | refine And.intro ?_ ?_)))
        · obtain rfl : i = own.length := by omega
          rw [List.take_length]
          generalize ownLo own (-1073741824) = A at *
          generalize ownHi own 1073741824 = B at *
          by_cases hAB : B < A
          · rw [if_pos hAB] at hput
            (conv => whnf); repeat' ((first | intro g | refine Wit.mk _ (hput _ rfl) ?_ | refine st ?_ | (first | refine b1 ?_ ?_ | refine b2 ?_ ?_ | refine Br.mk ?_ ?_) <;> intro hc | exact rfl) <;> conv => whnf)
            exact NxtS.mk (n + 1, g) (by first | omega | (dsimp only; omega)) (by omega) (by (refine ⟨?_, ?_⟩ <;> repeat' (first | exact True.intro | refine And.intro (e80 _) ?_ | refine ai ?_ | refine And.intro ?_ ?_)))
          · rw [if_neg hAB] at hput
            (conv => whnf); repeat' ((first | intro g | refine Wit.mk _ (hput _ rfl) ?_ | refine st ?_ | (first | refine b1 ?_ ?_ | refine b2 ?_ ?_ | refine Br.mk ?_ ?_) <;> intro hc | exact rfl) <;> conv => whnf)
            exact NxtS.mk (n + 1, g) (by first | omega | (dsimp only; omega)) (by omega) (by (refine ⟨?_, ?_⟩ <;> repeat' (first | exact True.intro | refine And.intro (e80 _) ?_ | refine ai ?_ | refine And.intro ?_ ?_)))
  · obtain rfl : n = 9 := by omega
    have hmp := esOf_mp (factB l) 9
    (conv => whnf); repeat' ((first | intro g | refine Need.mk (⟨rfl, rfl, esOf_pure _ _, esOf_tup _ _⟩) ?_ | refine st ?_ | (first | refine b1 ?_ ?_ | refine b2 ?_ ?_ | refine Br.mk ?_ ?_) <;> intro hc | exact rfl) <;> conv => whnf)
    rw [hmp]
    (conv => whnf); repeat' ((first | intro g | refine st ?_ | (first | refine b1 ?_ ?_ | refine b2 ?_ ?_ | refine Br.mk ?_ ?_) <;> intro hc | exact rfl) <;> conv => whnf)
theorem gatherA_ev {l : List Kno} {sv : V} (hl : KFit l) (hs : IsS 4 (l.map Kno.v) sv) : Ev E 339 [sv] ⟨.mlit (esOf (factB l) 9), []⟩ := by
  rcases hs with rfl | ⟨h0, rfl⟩
  · exact gather_ev hl
  · exact gatherN_ev hl (by simpa using h0)
end Go.AM
