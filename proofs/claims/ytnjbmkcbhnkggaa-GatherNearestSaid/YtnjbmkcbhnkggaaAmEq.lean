/-
  '==' on structs, place by place. Own work.
-/
import Derived.Test.YtnjbmkcbhnkggaaAmOps1
import Derived.Laws.StructEq
set_option linter.unusedSimpArgs false
namespace Go.AM
open Go Go.RowKit

theorem run_isAgg {X : Ctx} {t : TypeId} {g : Bool} (hg : aggT X t = some g) (w : World) : (isAgg t).run X.P w = .ok g w := by
  simp only [aggT, descT, Option.map_eq_some_iff] at hg
  obtain ⟨d, hdd, hg⟩ := hg
  simp only [isAgg, Sem.run_bind, run_underlying hdd, Result.andThen_ok]
  subst hg
  cases d <;> rfl

theorem run_sizeT {X : Ctx} {t : TypeId} {sz : Nat} (hn : sizeT X t = some sz) (w : World) : (sizeOf t).run X.P w = .ok sz w := by
  obtain ⟨inf, hi1, hi2⟩ : ∃ inf, X.P.info? t = some inf ∧ inf.size = sz := by simpa [sizeT, info] using hn
  have hsz : X.P.cellsOf t = sz := by simp [Program.cellsOf, hi1, hi2]
  rw [run_sizeOf (w := w) hi1, hsz]

theorem run_part_agg {X : Ctx} {t : TypeId} {sz : Nat} (hg : aggT X t = some true) (hn : sizeT X t = some sz) (cs : Array Value) (off : Nat) (w : World) :
    (Go.part t cs off).run X.P w = .ok (.agg (cs.extract off (off + sz))) w := by
  simp [Go.part, Sem.run_bind, run_isAgg hg, run_sizeT hn]

theorem run_part_cell {X : Ctx} {t : TypeId} (hg : aggT X t = some false) (cs : Array Value) (off : Nat) (c : Value) (hc : cs[off]? = some c) (w : World) :
    (Go.part t cs off).run X.P w = .ok c w := by
  simp [Go.part, Sem.run_bind, run_isAgg hg, hc]

theorem eqKs_split : ∀ (ks : List Nat) {ks' : List Nat} {cs ds : List V} {b : Bool}, eqKs (ks ++ ks') cs ds = some b →
    ∃ b1 b2, eqKs ks (cs.take ks.length) (ds.take ks.length) = some b1 ∧ eqKs ks' (cs.drop ks.length) (ds.drop ks.length) = some b2 ∧ b = (b1 && b2)
  | [], ks', cs, ds, b, h => ⟨true, b, by simp [eqKs], by simpa using h, by simp⟩
  | k :: ks, ks', [], _, b, h => by simp [eqKs] at h
  | k :: ks, ks', _ :: _, [], b, h => by simp [eqKs] at h
  | k :: ks, ks', c :: cs, d :: ds, b, h => by
    simp only [List.cons_append, eqKs] at h
    split at h
    · rename_i x y hx hy
      injection h with h; subst h
      obtain ⟨b1, b2, h1, h2, h3⟩ := eqKs_split ks hy
      refine ⟨x && b1, b2, ?_, by simpa using h2, by rw [h3, Bool.and_assoc]⟩
      simp [eqKs, hx, h1]
    · simp at h

theorem eqKs_length : ∀ {ks : List Nat} {cs ds : List V} {b : Bool}, eqKs ks cs ds = some b → cs.length = ks.length ∧ ds.length = ks.length
  | [], [], [], _, _ => ⟨rfl, rfl⟩
  | [], [], _ :: _, _, h => by simp [eqKs] at h
  | [], _ :: _, _, _, h => by simp [eqKs] at h
  | _ :: _, [], _, _, h => by simp [eqKs] at h
  | _ :: _, _ :: _, [], _, h => by simp [eqKs] at h
  | k :: ks, c :: cs, d :: ds, b, h => by
    simp only [eqKs] at h
    split at h
    · rename_i x y hx hy
      obtain ⟨h1, h2⟩ := eqKs_length hy
      simp [h1, h2]
    · simp at h

theorem eqK_rel {X : Ctx} {μ : Mu} {t : TypeId} {m k : Nat} {c e : V} {x y : Value} {b : Bool} {D : TypeDesc} (hd : descT X t = some D)
    (hk : (k = 0 ∧ D = .bool) ∨ (k = 1 ∧ ∃ q, D = .int q) ∨ (k = 2 ∧ D = .string))
    (hc : VRel X μ c x) (he : VRel X μ e y) (hb : eqK k c e = some b) (w : World) : (Op.equalIn (m + 1) t x y).run X.P w = .ok b w := by
  unfold eqK at hb
  split at hb
  · injection hb with hb; subst hb
    simp only [VRel] at hc he
    subst hc; subst he
    rcases hk with ⟨_, rfl⟩ | ⟨h, _⟩ | ⟨h, _⟩
    · exact run_equalIn_bool' w m t _ _ hd
    · cases h
    · cases h
  · split at hb
    · injection hb with hb; subst hb
      simp only [VRel] at hc he
      subst hc; subst he
      rename_i hkk
      subst hkk
      rcases hk with ⟨h, _⟩ | ⟨_, q, rfl⟩ | ⟨h, _⟩
      · cases h
      · exact run_equalIn_int w m t _ _ _ _ hd
      · cases h
    · simp at hb
  · injection hb with hb; subst hb
    simp only [VRel] at hc he
    obtain ⟨p, rfl, hp⟩ := hc
    obtain ⟨q, rfl, hq⟩ := he
    rcases hk with ⟨h, _⟩ | ⟨h, _⟩ | ⟨_, rfl⟩
    · cases h
    · cases h
    · rw [run_equalIn_string w m t _ _ hd]
      congr 1
      rw [ByteArray.toList_eq, ByteArray.toList_eq, hp, hq]
      rw [Bool.eq_iff_iff]; simp
  · simp at hb

theorem eq_rel {X : Ctx} {μ : Mu} (w : World) : ∀ d : Nat,
    (∀ t ks cs ds xs ys b m, kindsT X d t = some ks → d ≤ m → VRels X μ cs xs → VRels X μ ds ys → eqKs ks cs ds = some b →
      sizeT X t = some ks.length ∧ ((aggT X t = some true ∧ (Op.equalIn m t (.agg xs.toArray) (.agg ys.toArray)).run X.P w = .ok b w) ∨
        (aggT X t = some false ∧ ks.length = 1 ∧ ∃ x y, xs = [x] ∧ ys = [y] ∧ (Op.equalIn m t x y).run X.P w = .ok b w))) ∧
    (∀ fs off ks cs ds xs ys b m, kindsF X d fs off = some ks → d ≤ m → VRels X μ cs xs → VRels X μ ds ys → eqKs ks (cs.drop off) (ds.drop off) = some b →
      (Op.eqFields m xs.toArray ys.toArray fs).run X.P w = .ok b w) := by
  intro d
  induction d with
  | zero => exact ⟨fun _ _ _ _ _ _ _ _ h => by simp [kindsT] at h, fun _ _ _ _ _ _ _ _ _ h => by simp [kindsF] at h⟩
  | succ d ih =>
    refine ⟨fun t ks cs ds xs ys b m hk hm hx hy hb => ?_, fun fs off ks cs ds xs ys b m hk hm hx hy hb => ?_⟩
    · obtain ⟨m, rfl⟩ : ∃ m', m = m' + 1 := ⟨m - 1, by omega⟩
      have scalar : ∀ (D : TypeDesc) (k : Nat), descT X t = some D → ((k = 0 ∧ D = .bool) ∨ (k = 1 ∧ ∃ q, D = .int q) ∨ (k = 2 ∧ D = .string)) → sizeT X t = some 1 → ks = [k] →
          sizeT X t = some ks.length ∧ ((aggT X t = some true ∧ (Op.equalIn (m + 1) t (.agg xs.toArray) (.agg ys.toArray)).run X.P w = .ok b w) ∨
        (aggT X t = some false ∧ ks.length = 1 ∧ ∃ x y, xs = [x] ∧ ys = [y] ∧ (Op.equalIn (m + 1) t x y).run X.P w = .ok b w)) := by
        intro D k hd hD hs e
        subst e
        obtain ⟨l1, l2⟩ := eqKs_length hb
        have lx := hx.length
        have ly := hy.length
        match cs, ds, xs, ys, l1, l2, lx, ly with
        | [c], [e], [x], [y], _, _, _, _ =>
          simp only [VRels, and_true] at hx hy
          simp only [eqKs, Bool.and_true] at hb
          have hb' : eqK k c e = some b := by
            cases hq : eqK k c e <;> rw [hq] at hb <;> simp at hb; rw [hb]
          refine ⟨by simpa using hs, .inr ⟨?_, rfl, x, y, rfl, rfl, eqK_rel hd hD hx hy hb' w⟩⟩
          simp only [aggT, hd, Option.map_some]
          rcases hD with ⟨_, rfl⟩ | ⟨_, q, rfl⟩ | ⟨_, rfl⟩ <;> rfl
      simp only [kindsT] at hk
      split at hk
      · split at hk <;> simp at hk
        rename_i hd hs
        exact scalar _ 0 hd (by simp) hs hk.symm
      · split at hk <;> simp at hk
        rename_i hd hs
        exact scalar _ 1 hd (by simp) hs hk.symm
      · split at hk <;> simp at hk
        rename_i hd hs
        exact scalar _ 2 hd (by simp) hs hk.symm
      · rename_i fs hd
        split at hk
        · rename_i hst
          split at hk
          · rename_i ks' hkf
            split at hk
            · rename_i hs
              injection hk with hk; subst hk
              refine ⟨hs, .inl ⟨by simp [aggT, hd], ?_⟩⟩
              have hfo : X.P.fieldsOf t = fs := by
                have hd' : X.P.underlying t = some (.struct fs) := hd
                simp [Program.fieldsOf, hd']
              rw [run_equalIn_struct w m t _ _ (by rw [hfo]; exact hd) hst, hfo]
              exact ih.2 _ 0 _ cs ds xs ys b m hkf (by omega) hx hy (by simpa using hb)
            · simp at hk
          · simp at hk
        · simp at hk
      · simp at hk
    · obtain ⟨m, rfl⟩ : ∃ m', m = m' + 1 := ⟨m - 1, by omega⟩
      cases fs with
      | nil =>
        simp only [kindsF, Option.some.injEq] at hk
        subst hk
        cases hc : cs.drop off <;> cases he : ds.drop off <;> rw [hc, he] at hb <;> simp [eqKs] at hb
        subst hb
        simp [Op.eqFields]
      | cons f fs =>
        simp only [kindsF] at hk
        split at hk
        · rename_i hn
          split at hk
          · rename_i k1 hk1
            split at hk
            · rename_i k2 hk2
              injection hk with hk; subst hk
              obtain ⟨b1, b2, e1, e2, e3⟩ := eqKs_split k1 hb
              obtain ⟨hs, ha⟩ := ih.1 f.type k1 _ _ _ _ b1 (m + 1) hk1 (by omega) (VRels.take k1.length (VRels.drop off hx)) (VRels.take k1.length (VRels.drop off hy)) e1
              have hrest := ih.2 fs (off + k1.length) k2 cs ds xs ys b2 (m + 1) hk2 (by omega) hx hy (by simpa [List.drop_drop] using e2)
              have hoff := hn.2
              have head : (do let a ← Go.part f.type xs.toArray f.offset; let c ← Go.part f.type ys.toArray f.offset; Op.equalIn (m + 1) f.type a c : Sem Bool).run X.P w = .ok b1 w := by
                rcases ha with ⟨hg, hq⟩ | ⟨hg, h1, x, y, hx1, hy1, hq⟩
                · simp only [Sem.run_bind, run_part_agg hg hs, Result.andThen_ok, hoff]
                  rw [← hq]
                  congr 3 <;> (apply Array.ext'; simp [Array.toList_extract, List.extract_eq_take_drop])
                · have gx : xs.toArray[f.offset]? = some x := by
                    have := congrArg (fun l => l[0]?) hx1
                    simpa [List.getElem?_take, h1, hoff] using this
                  have gy : ys.toArray[f.offset]? = some y := by
                    have := congrArg (fun l => l[0]?) hy1
                    simpa [List.getElem?_take, h1, hoff] using this
                  simp only [Sem.run_bind, run_part_cell hg _ _ _ gx, run_part_cell hg _ _ _ gy, Result.andThen_ok]
                  exact hq
              simp only [Op.eqFields, Sem.run_ite, if_pos hn.1]
              simp only [Sem.run_bind] at head ⊢
              generalize (Go.part f.type xs.toArray f.offset).run X.P w = r1 at head ⊢
              cases r1 with
              | halt _ _ => simp [Result.andThen] at head
              | ok a1 w1 =>
                simp only [Result.andThen_ok] at head ⊢
                generalize (Go.part f.type ys.toArray f.offset).run X.P w1 = r2 at head ⊢
                cases r2 with
                | halt _ _ => simp [Result.andThen] at head
                | ok a2 w2 =>
                  simp only [Result.andThen_ok] at head ⊢
                  rw [head]
                  simp only [Result.andThen_ok, Sem.run_ite]
                  subst e3
                  cases b1
                  · simp
                  · simpa using hrest
            · simp at hk
          · simp at hk
        · simp at hk

end Go.AM
