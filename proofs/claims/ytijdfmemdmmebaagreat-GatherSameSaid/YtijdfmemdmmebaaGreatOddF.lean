/-
  Texts of the proof, joined by program: SOddEnoC, SOddEnoD, SOddEonA, SOddEonB. Own work.
-/
import Derived.Test.YtijdfmemdmmebaaGreatOddD
import Derived.KernelRfl
set_option linter.unusedSimpArgs false
set_option linter.unusedVariables false
set_option maxRecDepth 20000
namespace Go.AM

set_option maxHeartbeats 8000000 in
theorem odd10_noC {fs : List Face} {ws : List Way} {ps : List Place} (h : GMap.Small ⟨[], fs, ws, ps⟩) (q0 q1 q2 : Int) (hcopy : Ev E 92 [GMap.v ⟨[], fs, ws, ps⟩] ⟨.agg [.nils, .own 5 (fs.map Face.v), .own 8 (ws.map Way.v), .own 7 (ps.map Place.v)], []⟩)
    (cc : Nat) (ec : Ev E 93 [vi q0, vi ((17 : Nat) : Int)] ⟨vnat cc, []⟩) (hcs : cc = 10 ∨ cc = 11 ∨ cc = 12 ∨ cc = 13) :
    ∃ res, Ev E 79 [GMap.v ⟨[], fs, ws, ps⟩, q3V q0 q1 q2] res ∧ ∃ (m' : GMap) (a b : Bool), OddR ⟨[], fs, ws, ps⟩ m' ∧ res = ⟨m'.vw a b, []⟩ := by
  obtain ⟨nn, hnn, en⟩ := modN_ev q1 60 (by decide) (by decide)
  obtain ⟨kk, hkk, ek⟩ := modN_ev q2 64 (by decide) (by decide)
  have hF := h.faces; have hP := h.places; have hE := h.edges; have hW := h.ways
  dsimp only at hF hP hE hW
  refine Ev.of_s E_79 (X_79 _) rfl ?_
  rcases hcs with rfl | rfl | rfl | rfl
  · by_cases h0 : ps.length = 0
    · (conv => whnf); repeat' ((first | intro g | refine CallS.mk _ (hcopy) ?_ | refine CallS.mk _ (en) ?_ | refine CallS.mk _ (ek) ?_ | refine CallS.mk _ (ec) ?_ | refine st ?_ | (first | refine b1 ?_ ?_ | refine b2 ?_ ?_ | refine Br.mk ?_ ?_) <;> intro hc | exact rfl) <;> conv => whnf)
      refine ⟨⟨[], fs, ws, ps⟩, true, false, ?_, rfl⟩
      exact oddR_f h (by omega)
    · obtain ⟨jj, hjj, hjl⟩ := tmodN kk (ps.map Place.v).length (by simp; omega)
      have hjm := hjl
      rw [List.length_map] at hjl
      obtain ⟨f, hx⟩ : ∃ f, ps[jj]? = some f := ⟨_, get_lt hjl⟩
      have hgx : (ps.map Place.v)[((kk : Int).tmod ((ps.map Place.v).length : Int)).toNat]? = some f.v := map_get hx hjj
      (conv => whnf); repeat' ((first | intro g | refine Wit.mk _ (hgx) ?_ | refine Wit.mk _ (win_set (f := Place.v) (⟨f.id, IntKind.i64.wrap (IntKind.i64.wrap (f.x + (nn : Int)) - 30), IntKind.i64.wrap (IntKind.i64.wrap (f.y + (kk : Int)) - 30), f.cls, f.name, f.weight, f.dist⟩ : Place) (by first | (simp; done) | fail)) ?_ | refine CallS.mk _ (hcopy) ?_ | refine CallS.mk _ (en) ?_ | refine CallS.mk _ (ek) ?_ | refine CallS.mk _ (ec) ?_ | refine st ?_ | (first | refine b1 ?_ ?_ | refine b2 ?_ ?_ | refine Br.mk ?_ ?_) <;> intro hc | exact rfl) <;> conv => whnf)
      refine ⟨⟨[], fs, ws, _⟩, true, false, ?_, rfl⟩
      exact oddR_p h (.inl (by simp))
  · by_cases h0 : ps.length = 0
    · (conv => whnf); repeat' ((first | intro g | refine CallS.mk _ (hcopy) ?_ | refine CallS.mk _ (en) ?_ | refine CallS.mk _ (ek) ?_ | refine CallS.mk _ (ec) ?_ | refine st ?_ | (first | refine b1 ?_ ?_ | refine b2 ?_ ?_ | refine Br.mk ?_ ?_) <;> intro hc | exact rfl) <;> conv => whnf)
      refine ⟨⟨[], fs, ws, ps⟩, true, false, ?_, rfl⟩
      exact oddR_f h (by omega)
    · obtain ⟨jj, hjj, hjl⟩ := tmodN kk (ps.map Place.v).length (by simp; omega)
      have hjm := hjl
      rw [List.length_map] at hjl
      obtain ⟨f, hx⟩ : ∃ f, ps[jj]? = some f := ⟨_, get_lt hjl⟩
      have hgx : (ps.map Place.v)[((kk : Int).tmod ((ps.map Place.v).length : Int)).toNat]? = some f.v := map_get hx hjj
      (conv => whnf); repeat' ((first | intro g | refine Wit.mk _ (hgx) ?_ | refine Wit.mk _ (win_set (f := Place.v) (⟨f.id, f.x, f.y, f.cls, f.name, f.weight, (nn : Int).tmod 18⟩ : Place) (by first | (simp; done) | fail)) ?_ | refine CallS.mk _ (hcopy) ?_ | refine CallS.mk _ (en) ?_ | refine CallS.mk _ (ek) ?_ | refine CallS.mk _ (ec) ?_ | refine st ?_ | (first | refine b1 ?_ ?_ | refine b2 ?_ ?_ | refine Br.mk ?_ ?_) <;> intro hc | exact rfl) <;> conv => whnf)
      refine ⟨⟨[], fs, ws, _⟩, true, false, ?_, rfl⟩
      exact oddR_p h (.inl (by simp))
  · by_cases h0 : ps.length = 0
    · (conv => whnf); repeat' ((first | intro g | refine CallS.mk _ (hcopy) ?_ | refine CallS.mk _ (en) ?_ | refine CallS.mk _ (ek) ?_ | refine CallS.mk _ (ec) ?_ | refine st ?_ | (first | refine b1 ?_ ?_ | refine b2 ?_ ?_ | refine Br.mk ?_ ?_) <;> intro hc | exact rfl) <;> conv => whnf)
      refine ⟨⟨[], fs, ws, ps⟩, true, false, ?_, rfl⟩
      exact oddR_f h (by omega)
    · obtain ⟨jj, hjj, hjl⟩ := tmodN kk (ps.map Place.v).length (by simp; omega)
      have hjm := hjl
      rw [List.length_map] at hjl
      obtain ⟨f, hx⟩ : ∃ f, ps[jj]? = some f := ⟨_, get_lt hjl⟩
      have hgx : (ps.map Place.v)[((kk : Int).tmod ((ps.map Place.v).length : Int)).toNat]? = some f.v := map_get hx hjj
      obtain ⟨s, hs⟩ := text_tot nn
      (conv => whnf); repeat' ((first | intro g | refine Wit.mk _ (hgx) ?_ | refine Wit.mk _ (win_set (f := Place.v) (⟨f.id, f.x, f.y, f.cls, s, f.weight, f.dist⟩ : Place) (by first | (simp; done) | fail)) ?_ | refine CallS.mk _ (hcopy) ?_ | refine CallS.mk _ (en) ?_ | refine CallS.mk _ (ek) ?_ | refine CallS.mk _ (ec) ?_ | refine CallS.mk _ (hs) ?_ | refine st ?_ | (first | refine b1 ?_ ?_ | refine b2 ?_ ?_ | refine Br.mk ?_ ?_) <;> intro hc | exact rfl) <;> conv => whnf)
      refine ⟨⟨[], fs, ws, _⟩, true, false, ?_, rfl⟩
      exact oddR_p h (.inl (by simp))
  · by_cases h0 : ps.length = 0
    · (conv => whnf); repeat' ((first | intro g | refine CallS.mk _ (hcopy) ?_ | refine CallS.mk _ (en) ?_ | refine CallS.mk _ (ek) ?_ | refine CallS.mk _ (ec) ?_ | refine st ?_ | (first | refine b1 ?_ ?_ | refine b2 ?_ ?_ | refine Br.mk ?_ ?_) <;> intro hc | exact rfl) <;> conv => whnf)
      refine ⟨⟨[], fs, ws, ps⟩, true, false, ?_, rfl⟩
      exact oddR_f h (by omega)
    · obtain ⟨jj, hjj, hjl⟩ := tmodN kk (ps.map Place.v).length (by simp; omega)
      have hjn : ((kk : Int).tmod ((ps.map Place.v).length : Int)).toNat = jj := by rw [hjj]; rfl
      have hw : IntKind.i64.wrap ((kk : Int).tmod ((ps.map Place.v).length : Int) + 1) = ((jj + 1 : Nat) : Int) := by rw [hjj]; exact (wrap64 (by rw [List.length_map] at hjl; omega) (by rw [List.length_map] at hjl; omega)).trans (by omega)
      have hwn : (IntKind.i64.wrap ((kk : Int).tmod ((ps.map Place.v).length : Int) + 1)).toNat = jj + 1 := by rw [hw]; rfl
      have hlm : (ps.map Place.v).length = ps.length := List.length_map ..
      have hld : ((ps.drop (jj + 1)).map Place.v).length = ps.length - (jj + 1) := by simp
      (conv => whnf); repeat' ((first | intro g | refine Need.mk (⟨over_le (by first | omega | fail) (by first | omega | fail), AM.pures (fun _ => rfl) _⟩) ?_ | refine Wit.mk _ (win_tail (f := Place.v) (j := jj) (by first | omega | fail) (by first | omega | fail)) ?_ | refine Wit.mk _ (over_rm (f := Place.v) (j := jj) (by first | omega | fail) (by first | omega | fail) (by first | omega | fail)) ?_ | refine CallS.mk _ (hcopy) ?_ | refine CallS.mk _ (en) ?_ | refine CallS.mk _ (ek) ?_ | refine CallS.mk _ (ec) ?_ | refine st ?_ | (first | refine b1 ?_ ?_ | refine b2 ?_ ?_ | refine Br.mk ?_ ?_) <;> intro hc | exact rfl) <;> conv => whnf)
      refine ⟨⟨[], fs, ws, _⟩, true, false, ?_, rfl⟩
      exact oddR_p h (.inl (by simp; omega))
end Go.AM

set_option maxRecDepth 20000
namespace Go.AM

set_option maxHeartbeats 8000000 in
theorem odd10_noD {fs : List Face} {ws : List Way} {ps : List Place} (h : GMap.Small ⟨[], fs, ws, ps⟩) (q0 q1 q2 : Int) (hcopy : Ev E 92 [GMap.v ⟨[], fs, ws, ps⟩] ⟨.agg [.nils, .own 5 (fs.map Face.v), .own 8 (ws.map Way.v), .own 7 (ps.map Place.v)], []⟩)
    (cc : Nat) (ec : Ev E 93 [vi q0, vi ((17 : Nat) : Int)] ⟨vnat cc, []⟩) (hcs : cc = 14 ∨ cc = 15 ∨ cc = 16) :
    ∃ res, Ev E 79 [GMap.v ⟨[], fs, ws, ps⟩, q3V q0 q1 q2] res ∧ ∃ (m' : GMap) (a b : Bool), OddR ⟨[], fs, ws, ps⟩ m' ∧ res = ⟨m'.vw a b, []⟩ := by
  obtain ⟨nn, hnn, en⟩ := modN_ev q1 60 (by decide) (by decide)
  obtain ⟨kk, hkk, ek⟩ := modN_ev q2 64 (by decide) (by decide)
  have hF := h.faces; have hP := h.places; have hE := h.edges; have hW := h.ways
  dsimp only at hF hP hE hW
  refine Ev.of_s E_79 (X_79 _) rfl ?_
  rcases hcs with rfl | rfl | rfl
  · obtain ⟨s, hs⟩ := text_tot kk
    obtain ⟨k4, hk4, hl4⟩ := tmodN nn 4 (by decide)
    have hk4 : (nn : Int).tmod 4 = k4 := hk4
    obtain ⟨y, hy⟩ : ∃ y : Int, [V.int .i64 0, V.int .i64 1073741824, V.int .i64 1073741825, V.int .i64 70][((nn : Int).tmod 4).toNat]? = some (vi y) := by
      rw [hk4]
      rcases (by omega : k4 = 0 ∨ k4 = 1 ∨ k4 = 2 ∨ k4 = 3) with rfl | rfl | rfl | rfl <;> exact ⟨_, rfl⟩
    have happ : window (ps.map Place.v ++ [Place.v (⟨IntKind.i64.wrap (y + IntKind.i64.wrap ((nn : Int).tdiv 4)), IntKind.i64.wrap (50 + IntKind.i64.wrap (5 * (nn : Int))), IntKind.i64.wrap (50 + IntKind.i64.wrap (2 * (kk : Int))), [115, 104, 111, 112], s, 5, IntKind.i64.wrap (1 + (nn : Int).tmod 2)⟩ : Place)]) 0 ((ps.map Place.v).length + 1) = (ps ++ [(⟨IntKind.i64.wrap (y + IntKind.i64.wrap ((nn : Int).tdiv 4)), IntKind.i64.wrap (50 + IntKind.i64.wrap (5 * (nn : Int))), IntKind.i64.wrap (50 + IntKind.i64.wrap (2 * (kk : Int))), [115, 104, 111, 112], s, 5, IntKind.i64.wrap (1 + (nn : Int).tmod 2)⟩ : Place)]).map Place.v := by
      rw [show ps.map Place.v ++ [Place.v (⟨IntKind.i64.wrap (y + IntKind.i64.wrap ((nn : Int).tdiv 4)), IntKind.i64.wrap (50 + IntKind.i64.wrap (5 * (nn : Int))), IntKind.i64.wrap (50 + IntKind.i64.wrap (2 * (kk : Int))), [115, 104, 111, 112], s, 5, IntKind.i64.wrap (1 + (nn : Int).tmod 2)⟩ : Place)] = (ps ++ [(⟨IntKind.i64.wrap (y + IntKind.i64.wrap ((nn : Int).tdiv 4)), IntKind.i64.wrap (50 + IntKind.i64.wrap (5 * (nn : Int))), IntKind.i64.wrap (50 + IntKind.i64.wrap (2 * (kk : Int))), [115, 104, 111, 112], s, 5, IntKind.i64.wrap (1 + (nn : Int).tmod 2)⟩ : Place)]).map Place.v from by simp]
      exact win_all (by simp)
    (conv => whnf); repeat' ((first | intro g | refine Wit.mk _ (hy) ?_ | refine Wit.mk _ (happ) ?_ | refine CallS.mk _ (hcopy) ?_ | refine CallS.mk _ (en) ?_ | refine CallS.mk _ (ek) ?_ | refine CallS.mk _ (ec) ?_ | refine CallS.mk _ (hs) ?_ | refine st ?_ | (first | refine b1 ?_ ?_ | refine b2 ?_ ?_ | refine Br.mk ?_ ?_) <;> intro hc | exact rfl) <;> conv => whnf)
    refine ⟨⟨[], fs, ws, _⟩, true, false, ?_, rfl⟩
    exact oddR_p h (.inl (by simp))
  · by_cases h0 : ps.length = 0
    · (conv => whnf); repeat' ((first | intro g | refine CallS.mk _ (hcopy) ?_ | refine CallS.mk _ (en) ?_ | refine CallS.mk _ (ek) ?_ | refine CallS.mk _ (ec) ?_ | refine st ?_ | (first | refine b1 ?_ ?_ | refine b2 ?_ ?_ | refine Br.mk ?_ ?_) <;> intro hc | exact rfl) <;> conv => whnf)
      refine ⟨⟨[], fs, ws, ps⟩, true, false, ?_, rfl⟩
      exact oddR_f h (by omega)
    · obtain ⟨jj, hjj, hjl⟩ := tmodN kk (ps.map Place.v).length (by simp; omega)
      have hjm := hjl
      rw [List.length_map] at hjl
      obtain ⟨f, hx⟩ : ∃ f, ps[jj]? = some f := ⟨_, get_lt hjl⟩
      have hgx : (ps.map Place.v)[((kk : Int).tmod ((ps.map Place.v).length : Int)).toNat]? = some f.v := map_get hx hjj
      (conv => whnf); repeat' ((first | intro g | refine Wit.mk _ (hgx) ?_ | refine Wit.mk _ (win_set (f := Place.v) (⟨f.id, f.x, f.y, f.cls, f.name, IntKind.i64.wrap ((nn : Int) * 5), f.dist⟩ : Place) (by first | (simp; done) | fail)) ?_ | refine CallS.mk _ (hcopy) ?_ | refine CallS.mk _ (en) ?_ | refine CallS.mk _ (ek) ?_ | refine CallS.mk _ (ec) ?_ | refine st ?_ | (first | refine b1 ?_ ?_ | refine b2 ?_ ?_ | refine Br.mk ?_ ?_) <;> intro hc | exact rfl) <;> conv => whnf)
      refine ⟨⟨[], fs, ws, _⟩, true, false, ?_, rfl⟩
      exact oddR_p h (.inl (by simp))
  · obtain ⟨k4, hk4, hl4⟩ := tmodN nn 4 (by decide)
    have hk4 : (nn : Int).tmod 4 = k4 := hk4
    have hw4 : IntKind.i64.wrap (79 + (nn : Int).tmod 4) = ((79 + k4 : Nat) : Int) := by rw [hk4]; exact (wrap64 (by omega) (by omega)).trans (by omega)
    (conv => whnf); repeat' ((first | intro g | refine CallS.mk _ (hcopy) ?_ | refine CallS.mk _ (en) ?_ | refine CallS.mk _ (ek) ?_ | refine CallS.mk _ (ec) ?_ | refine st ?_ | (first | refine b1 ?_ ?_ | refine b2 ?_ ?_ | refine Br.mk ?_ ?_) <;> intro hc | exact rfl) <;> conv => whnf)
    rename_i g80 gF gW gP
    obtain ⟨g96, hg96⟩ : ∃ x, x = g := ⟨_, rfl⟩
    rw [← hg96]; clear hg96
    refine LoopS.by (fun ((i, gp) : Nat × Nat) => ⟨[(4, .ptr 80 g80 0 0), (5, .ptr 96 g96 0 0), (6, vnat nn), (9, vnat i)], [(80, ⟨g80, 4, false, false, some [.agg [.lit 4 [], .lit 5 [], .lit 8 [], .lit 7 []]]⟩), (96, ⟨g96, 4, false, false, some [.agg [.nils, .sl 193 gF 0 (fs.map Face.v).length, .sl 194 gW 0 (ws.map Way.v).length, .sl 195 gp 0 (ps.length + i)]]⟩), (193, ⟨gF, 5, true, false, some (fs.map Face.v)⟩), (194, ⟨gW, 8, true, false, some (ws.map Way.v)⟩), (195, ⟨gp, 7, true, false, some ((ps ++ (List.range i).map treeP).map Place.v)⟩)]⟩)
      (fun (i, _) => i ≤ 79 + k4) (fun (i, _) => 79 + k4 - i) (0, gP) (by (refine ⟨?_, ?_⟩ <;> repeat' (first | exact True.intro | refine ai ?_ | refine And.intro ?_ ?_))) (by simp) ?_
    rintro ⟨i, gp⟩ hi
    try dsimp only at hi
    have hlen : ((ps ++ (List.range i).map treeP).map Place.v).length = ps.length + i := by simp
    by_cases hlt : i < 79 + k4
    · (conv => whnf); repeat' ((first | (refine Or.inl (Need.mk ⟨rfl, hlen, by simp; omega⟩ ?_)) | intro g | refine st ?_ | (first | refine b1 ?_ ?_ | refine b2 ?_ ?_ | refine Br.mk ?_ ?_) <;> intro hc | exact rfl) <;> conv => whnf)
      exact NxtS.mk (i + 1, g) (by first | omega | (dsimp only; omega)) (by first | omega | (dsimp only; omega)) (by (refine ⟨?_, ?_⟩ <;> repeat' (first | exact True.intro | refine And.intro (congrArg (fun L => (⟨g, 7, true, false, some L⟩ : Obj)) (trees_snoc ps i)) ?_ | refine ai ?_ | refine And.intro ?_ ?_)))
    · obtain rfl : i = 79 + k4 := by omega
      (conv => whnf); repeat' ((first | intro g | refine Wit.mk _ (win_all (by first | (simp; done) | fail)) ?_ | refine st ?_ | (first | refine b1 ?_ ?_ | refine b2 ?_ ?_ | refine Br.mk ?_ ?_) <;> intro hc | exact rfl) <;> conv => whnf)
      refine ⟨⟨[], fs, ws, _⟩, true, false, ?_, rfl⟩
      exact oddR_p h (.inr ⟨79 + k4, treeP, by omega, fun i hi => (wrap64 (by omega) (by omega)), rfl⟩)
end Go.AM

set_option maxRecDepth 20000
namespace Go.AM

set_option maxHeartbeats 8000000 in
theorem odd10_onA {es : List Edge} {fs : List Face} {ps : List Place} (h : GMap.Small ⟨es, fs, [], ps⟩) (q0 q1 q2 : Int) (hcopy : Ev E 92 [GMap.v ⟨es, fs, [], ps⟩] ⟨.agg [.own 4 (es.map Edge.v), .own 5 (fs.map Face.v), .nils, .own 7 (ps.map Place.v)], []⟩)
    (cc : Nat) (ec : Ev E 93 [vi q0, vi ((17 : Nat) : Int)] ⟨vnat cc, []⟩) (hcs : cc = 0 ∨ cc = 1 ∨ cc = 2 ∨ cc = 3 ∨ cc = 4) :
    ∃ res, Ev E 79 [GMap.v ⟨es, fs, [], ps⟩, q3V q0 q1 q2] res ∧ ∃ (m' : GMap) (a b : Bool), OddR ⟨es, fs, [], ps⟩ m' ∧ res = ⟨m'.vw a b, []⟩ := by
  obtain ⟨nn, hnn, en⟩ := modN_ev q1 60 (by decide) (by decide)
  obtain ⟨kk, hkk, ek⟩ := modN_ev q2 64 (by decide) (by decide)
  have hF := h.faces; have hP := h.places; have hE := h.edges; have hW := h.ways
  dsimp only at hF hP hE hW
  refine Ev.of_s E_79 (X_79 _) rfl ?_
  rcases hcs with rfl | rfl | rfl | rfl | rfl
  · (conv => whnf); repeat' ((first | intro g | refine CallS.mk _ (hcopy) ?_ | refine CallS.mk _ (en) ?_ | refine CallS.mk _ (ek) ?_ | refine CallS.mk _ (ec) ?_ | refine st ?_ | (first | refine b1 ?_ ?_ | refine b2 ?_ ?_ | refine Br.mk ?_ ?_) <;> intro hc | exact rfl) <;> conv => whnf)
    refine CallS.ex (odd07_lit (L := es) (F := fs) (by omega) (by omega) h.el _ _ _) ?_
    rintro _ ⟨L', F', h1, h2, h3, rfl⟩
    (conv => whnf); repeat' ((first | intro g | refine CallS.mk _ (hcopy) ?_ | refine CallS.mk _ (en) ?_ | refine CallS.mk _ (ek) ?_ | refine CallS.mk _ (ec) ?_ | refine st ?_ | (first | refine b1 ?_ ?_ | refine b2 ?_ ?_ | refine Br.mk ?_ ?_) <;> intro hc | exact rfl) <;> conv => whnf)
    refine ⟨⟨L', F', [], ps⟩, false, true, ?_, rfl⟩
    exact oddR_e h h1 h2 h3
  · by_cases h0 : fs.length = 0
    · (conv => whnf); repeat' ((first | ((refine Wit.str (by simp) h5 ?_; intro s)) | intro g | refine CallS.mk _ (hcopy) ?_ | refine CallS.mk _ (en) ?_ | refine CallS.mk _ (ek) ?_ | refine CallS.mk _ (ec) ?_ | refine st ?_ | (first | refine b1 ?_ ?_ | refine b2 ?_ ?_ | refine Br.mk ?_ ?_) <;> intro hc | exact rfl) <;> conv => whnf)
      refine ⟨⟨es, fs, [], ps⟩, false, true, ?_, rfl⟩
      exact oddR_f h (by omega)
    · obtain ⟨jj, hjj, hjl⟩ := tmodN kk (fs.map Face.v).length (by simp; omega)
      have hjm := hjl
      rw [List.length_map] at hjl
      obtain ⟨f, hx⟩ : ∃ f, fs[jj]? = some f := ⟨_, get_lt hjl⟩
      have hgx : (fs.map Face.v)[((kk : Int).tmod ((fs.map Face.v).length : Int)).toNat]? = some f.v := map_get hx hjj
      obtain ⟨k5, hk5, hl5⟩ := tmodN nn 5 (by decide)
      have hk5 : (nn : Int).tmod 5 = (k5 : Int) := hk5
      have h5 : ((nn : Int).tmod 5).toNat < 5 := by omega
      (conv => whnf); repeat' ((first | ((refine Wit.str (by simp) h5 ?_; intro s)) | intro g | refine Wit.mk _ (hgx) ?_ | refine Wit.mk _ (win_set (f := Face.v) (⟨f.id, s, f.name, f.weight, f.dist⟩ : Face) (by first | (simp; done) | fail)) ?_ | refine CallS.mk _ (hcopy) ?_ | refine CallS.mk _ (en) ?_ | refine CallS.mk _ (ek) ?_ | refine CallS.mk _ (ec) ?_ | refine st ?_ | (first | refine b1 ?_ ?_ | refine b2 ?_ ?_ | refine Br.mk ?_ ?_) <;> intro hc | exact rfl) <;> conv => whnf)
      refine ⟨⟨es, _, [], ps⟩, false, true, ?_, rfl⟩
      exact oddR_f h (by simp)
  · by_cases h0 : fs.length = 0
    · (conv => whnf); repeat' ((first | intro g | refine CallS.mk _ (hcopy) ?_ | refine CallS.mk _ (en) ?_ | refine CallS.mk _ (ek) ?_ | refine CallS.mk _ (ec) ?_ | refine st ?_ | (first | refine b1 ?_ ?_ | refine b2 ?_ ?_ | refine Br.mk ?_ ?_) <;> intro hc | exact rfl) <;> conv => whnf)
      refine ⟨⟨es, fs, [], ps⟩, false, true, ?_, rfl⟩
      exact oddR_f h (by omega)
    · obtain ⟨jj, hjj, hjl⟩ := tmodN kk (fs.map Face.v).length (by simp; omega)
      have hjm := hjl
      rw [List.length_map] at hjl
      obtain ⟨f, hx⟩ : ∃ f, fs[jj]? = some f := ⟨_, get_lt hjl⟩
      have hgx : (fs.map Face.v)[((kk : Int).tmod ((fs.map Face.v).length : Int)).toNat]? = some f.v := map_get hx hjj
      obtain ⟨s, hs⟩ := text_tot nn
      (conv => whnf); repeat' ((first | intro g | refine Wit.mk _ (hgx) ?_ | refine Wit.mk _ (win_set (f := Face.v) (⟨f.id, f.cls, s, f.weight, f.dist⟩ : Face) (by first | (simp; done) | fail)) ?_ | refine CallS.mk _ (hcopy) ?_ | refine CallS.mk _ (en) ?_ | refine CallS.mk _ (ek) ?_ | refine CallS.mk _ (ec) ?_ | refine CallS.mk _ (hs) ?_ | refine st ?_ | (first | refine b1 ?_ ?_ | refine b2 ?_ ?_ | refine Br.mk ?_ ?_) <;> intro hc | exact rfl) <;> conv => whnf)
      refine ⟨⟨es, _, [], ps⟩, false, true, ?_, rfl⟩
      exact oddR_f h (by simp)
  · by_cases h0 : fs.length = 0
    · (conv => whnf); repeat' ((first | intro g | refine CallS.mk _ (hcopy) ?_ | refine CallS.mk _ (en) ?_ | refine CallS.mk _ (ek) ?_ | refine CallS.mk _ (ec) ?_ | refine st ?_ | (first | refine b1 ?_ ?_ | refine b2 ?_ ?_ | refine Br.mk ?_ ?_) <;> intro hc | exact rfl) <;> conv => whnf)
      refine ⟨⟨es, fs, [], ps⟩, false, true, ?_, rfl⟩
      exact oddR_f h (by omega)
    · obtain ⟨jj, hjj, hjl⟩ := tmodN kk (fs.map Face.v).length (by simp; omega)
      have hjm := hjl
      rw [List.length_map] at hjl
      obtain ⟨f, hx⟩ : ∃ f, fs[jj]? = some f := ⟨_, get_lt hjl⟩
      have hgx : (fs.map Face.v)[((kk : Int).tmod ((fs.map Face.v).length : Int)).toNat]? = some f.v := map_get hx hjj
      (conv => whnf); repeat' ((first | intro g | refine Wit.mk _ (hgx) ?_ | refine Wit.mk _ (win_set (f := Face.v) (⟨f.id, f.cls, f.name, IntKind.i64.wrap ((nn : Int) * 6), f.dist⟩ : Face) (by first | (simp; done) | fail)) ?_ | refine CallS.mk _ (hcopy) ?_ | refine CallS.mk _ (en) ?_ | refine CallS.mk _ (ek) ?_ | refine CallS.mk _ (ec) ?_ | refine st ?_ | (first | refine b1 ?_ ?_ | refine b2 ?_ ?_ | refine Br.mk ?_ ?_) <;> intro hc | exact rfl) <;> conv => whnf)
      refine ⟨⟨es, _, [], ps⟩, false, true, ?_, rfl⟩
      exact oddR_f h (by simp)
  · by_cases h0 : fs.length = 0
    · (conv => whnf); repeat' ((first | intro g | refine CallS.mk _ (hcopy) ?_ | refine CallS.mk _ (en) ?_ | refine CallS.mk _ (ek) ?_ | refine CallS.mk _ (ec) ?_ | refine st ?_ | (first | refine b1 ?_ ?_ | refine b2 ?_ ?_ | refine Br.mk ?_ ?_) <;> intro hc | exact rfl) <;> conv => whnf)
      refine ⟨⟨es, fs, [], ps⟩, false, true, ?_, rfl⟩
      exact oddR_f h (by omega)
    · obtain ⟨jj, hjj, hjl⟩ := tmodN kk (fs.map Face.v).length (by simp; omega)
      have hjm := hjl
      rw [List.length_map] at hjl
      obtain ⟨f, hx⟩ : ∃ f, fs[jj]? = some f := ⟨_, get_lt hjl⟩
      have hgx : (fs.map Face.v)[((kk : Int).tmod ((fs.map Face.v).length : Int)).toNat]? = some f.v := map_get hx hjj
      (conv => whnf); repeat' ((first | intro g | refine Wit.mk _ (hgx) ?_ | refine Wit.mk _ (win_set (f := Face.v) (⟨f.id, f.cls, f.name, f.weight, (nn : Int).tmod 18⟩ : Face) (by first | (simp; done) | fail)) ?_ | refine CallS.mk _ (hcopy) ?_ | refine CallS.mk _ (en) ?_ | refine CallS.mk _ (ek) ?_ | refine CallS.mk _ (ec) ?_ | refine st ?_ | (first | refine b1 ?_ ?_ | refine b2 ?_ ?_ | refine Br.mk ?_ ?_) <;> intro hc | exact rfl) <;> conv => whnf)
      refine ⟨⟨es, _, [], ps⟩, false, true, ?_, rfl⟩
      exact oddR_f h (by simp)
end Go.AM

set_option maxRecDepth 20000
namespace Go.AM

set_option maxHeartbeats 8000000 in
theorem odd10_onB {es : List Edge} {fs : List Face} {ps : List Place} (h : GMap.Small ⟨es, fs, [], ps⟩) (q0 q1 q2 : Int) (hcopy : Ev E 92 [GMap.v ⟨es, fs, [], ps⟩] ⟨.agg [.own 4 (es.map Edge.v), .own 5 (fs.map Face.v), .nils, .own 7 (ps.map Place.v)], []⟩)
    (cc : Nat) (ec : Ev E 93 [vi q0, vi ((17 : Nat) : Int)] ⟨vnat cc, []⟩) (hcs : cc = 5 ∨ cc = 6 ∨ cc = 7 ∨ cc = 8 ∨ cc = 9) :
    ∃ res, Ev E 79 [GMap.v ⟨es, fs, [], ps⟩, q3V q0 q1 q2] res ∧ ∃ (m' : GMap) (a b : Bool), OddR ⟨es, fs, [], ps⟩ m' ∧ res = ⟨m'.vw a b, []⟩ := by
  obtain ⟨nn, hnn, en⟩ := modN_ev q1 60 (by decide) (by decide)
  obtain ⟨kk, hkk, ek⟩ := modN_ev q2 64 (by decide) (by decide)
  have hF := h.faces; have hP := h.places; have hE := h.edges; have hW := h.ways
  dsimp only at hF hP hE hW
  refine Ev.of_s E_79 (X_79 _) rfl ?_
  rcases hcs with rfl | rfl | rfl | rfl | rfl
  · (conv => whnf); repeat' ((first | intro g | refine CallS.mk _ (hcopy) ?_ | refine CallS.mk _ (en) ?_ | refine CallS.mk _ (ek) ?_ | refine CallS.mk _ (ec) ?_ | refine st ?_ | (first | refine b1 ?_ ?_ | refine b2 ?_ ?_ | refine Br.mk ?_ ?_) <;> intro hc | exact rfl) <;> conv => whnf)
    refine ⟨⟨es, fs, [], ps⟩, false, true, ?_, rfl⟩
    exact oddR_f h (by omega)
  · (conv => whnf); repeat' ((first | intro g | refine CallS.mk _ (hcopy) ?_ | refine CallS.mk _ (en) ?_ | refine CallS.mk _ (ek) ?_ | refine CallS.mk _ (ec) ?_ | refine st ?_ | (first | refine b1 ?_ ?_ | refine b2 ?_ ?_ | refine Br.mk ?_ ?_) <;> intro hc | exact rfl) <;> conv => whnf)
    refine ⟨⟨es, fs, [], ps⟩, false, true, ?_, rfl⟩
    exact oddR_f h (by omega)
  · (conv => whnf); repeat' ((first | intro g | refine CallS.mk _ (hcopy) ?_ | refine CallS.mk _ (en) ?_ | refine CallS.mk _ (ek) ?_ | refine CallS.mk _ (ec) ?_ | refine st ?_ | (first | refine b1 ?_ ?_ | refine b2 ?_ ?_ | refine Br.mk ?_ ?_) <;> intro hc | exact rfl) <;> conv => whnf)
    refine ⟨⟨es, fs, [], ps⟩, false, true, ?_, rfl⟩
    exact oddR_f h (by omega)
  · (conv => whnf); repeat' ((first | intro g | refine CallS.mk _ (hcopy) ?_ | refine CallS.mk _ (en) ?_ | refine CallS.mk _ (ek) ?_ | refine CallS.mk _ (ec) ?_ | refine st ?_ | (first | refine b1 ?_ ?_ | refine b2 ?_ ?_ | refine Br.mk ?_ ?_) <;> intro hc | exact rfl) <;> conv => whnf)
    refine ⟨⟨es, fs, [], ps⟩, false, true, ?_, rfl⟩
    exact oddR_f h (by omega)
  · obtain ⟨s, hs⟩ := text_tot kk
    (conv => whnf); repeat' ((first | intro g | refine CallS.mk _ (hcopy) ?_ | refine CallS.mk _ (en) ?_ | refine CallS.mk _ (ek) ?_ | refine CallS.mk _ (ec) ?_ | refine CallS.mk _ (hs) ?_ | refine st ?_ | (first | refine b1 ?_ ?_ | refine b2 ?_ ?_ | refine Br.mk ?_ ?_) <;> intro hc | exact rfl) <;> conv => whnf)
    refine ⟨⟨es, fs, [(⟨IntKind.i64.wrap (30 + (nn : Int)), [⟨IntKind.i64.wrap (10 * (nn : Int)), 20⟩, ⟨55, 65⟩], (kk : Int).tmod 2, [112, 97, 116, 104], s, false, IntKind.i64.wrap (1 + (nn : Int)), IntKind.i64.wrap (1 + (kk : Int).tmod 3)⟩ : Way)], ps⟩, false, false, ?_, rfl⟩
    exact oddR_w h (by simp) (by simp)
end Go.AM
