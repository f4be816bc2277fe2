/-
  Stepping through the machine's code: drawn regions, calls, values. Own work.
-/
import Derived.Test.YtnjbmkcbhnkggaaAmWp
import Derived.Attr
set_option linter.unusedSimpArgs false
namespace Go.AM

section
variable {E : Env} {σ : St}

/-- a region's operations, with all that is read and written -/
def wpx0 (E : Env) : List AOper → St → (List Foot → St → Prop) → Prop
  | [], σ, Q => Q [] σ
  | o :: os, σ, Q => wpf E (operAct E o) σ fun v σ' r w => wpx0 E os (σ'.put o.dst v) fun fs σ'' => Q (⟨r, (match o.dst with | some d => [.t d] | none => []) ++ w⟩ :: fs) σ''
def wpx (E : Env) (os : List AOper) (σ : St) (Q : List Foot → St → Prop) (_ : Tg os (σ, Q) := .mk) : Prop := wpx0 E os σ Q
def dstLoc (d : Option Nat) (w : List Loc) : List Loc := match d with | some d => .t d :: w | none => w
theorem wpx_nil {Q : List Foot → St → Prop} : wpx E [] σ Q = Q [] σ := rfl
theorem wpx_cons {o : AOper} {os : List AOper} {Q : List Foot → St → Prop} : wpx E (o :: os) σ Q = wpf E (operAct E o) σ fun v σ' r w => wpx E os (σ'.put o.dst v) fun fs σ'' => Q (⟨r, dstLoc o.dst w⟩ :: fs) σ'' := by
  have : ∀ w, (match o.dst with | some d => [Loc.t d] | none => []) ++ w = dstLoc o.dst w := by intro w; cases o.dst <;> rfl
  have h2 : (fun (v : V) (σ' : St) (r w : List Loc) => wpx0 E os (σ'.put o.dst v) fun fs σ'' => Q (⟨r, (match o.dst with | some d => [.t d] | none => []) ++ w⟩ :: fs) σ'') = (fun v σ' r w => wpx0 E os (σ'.put o.dst v) fun fs σ'' => Q (⟨r, dstLoc o.dst w⟩ :: fs) σ'') := by
    funext v σ' r w; rw [this]
  show wpf E (operAct E o) σ (fun (v : V) (σ' : St) (r w : List Loc) => wpx0 E os (σ'.put o.dst v) fun fs σ'' => Q (⟨r, (match o.dst with | some d => [.t d] | none => []) ++ w⟩ :: fs) σ'') = _
  rw [h2]; rfl

def chk : List (List Nat) → List (List Nat) → List Foot → List Foot → Bool
  | [], _, _, _ => true
  | p :: ps, before, feet, f :: rest => (fits feet (closure before p) f feet.length && p.all (· < feet.length)) && chk ps (before ++ [closure before p]) (feet ++ [f]) rest
  | _ :: _, _, _, [] => false

theorem wpf_mono {a : Act} {Q Q' : V → St → List Loc → List Loc → Prop} (h : wpf E a σ Q) (k : ∀ v σ' r w, Q v σ' r w → Q' v σ' r w) : wpf E a σ Q' := by
  obtain ⟨n, v, σ', h1, h2⟩ := h
  exact ⟨n, v, σ', h1, k _ _ _ _ h2⟩

theorem wpx_mono : ∀ {os : List AOper} {σ : St} {Q Q' : List Foot → St → Prop}, wpx0 E os σ Q → (∀ fs σ', Q fs σ' → Q' fs σ') → wpx0 E os σ Q'
  | [], _, _, _, h, k => k _ _ h
  | o :: os, _, _, _, h, k => by
    simp only [wpx0] at h ⊢
    exact wpf_mono h fun v σ' r w h' => wpx_mono h' fun fs σ'' h'' => k _ _ h''

theorem wpd_of {Q : St → Prop} : ∀ {os : List AOper} {σ : St} {feet : List Foot} {before : List (List Nat)},
    wpx0 E os σ (fun fs σ' => chk (os.map (·.pre)) before feet fs = true ∧ Q σ') → wpd E feet before os σ Q
  | [], _, _, _, h => by rw [wpd_nil]; exact h.2
  | o :: os, σ, feet, before, h => by
    rw [wpd_cons]
    simp only [wpx0, List.map_cons, chk, Bool.and_eq_true] at h
    refine wpf_mono h fun v σ' r w h' => ?_
    have h1 : wpx0 E os (σ'.put o.dst v) (fun fs σ'' => (fits feet (closure before o.pre) ⟨r, (match o.dst with | some d => [.t d] | none => []) ++ w⟩ feet.length && o.pre.all (· < feet.length)) = true) :=
      wpx_mono h' fun fs σ'' hh => by
        have := hh.1
        simp only [List.map_cons, chk, Bool.and_eq_true] at this
        simp only [Bool.and_eq_true]; exact this.1
    have const : ∀ {os : List AOper} {σ : St} {p : Prop}, wpx0 E os σ (fun _ _ => p) → p := by
      intro os
      induction os with
      | nil => intro σ p h; exact h
      | cons o os ih =>
        intro σ p h
        simp only [wpx0] at h
        obtain ⟨n, v, σ', _, h2⟩ := h
        exact ih h2
    refine ⟨const h1, wpd_of (wpx_mono h' fun fs σ'' hh => ⟨by have := hh.1; simp only [List.map_cons, chk, Bool.and_eq_true] at this; exact this.2, hh.2⟩)⟩

theorem wpc_drawn_of {ops : List AOper} {Q : AExit → St → Prop} (h : wpx E ops σ (fun fs σ' => chk (ops.map (·.pre)) [] [] fs = true ∧ Q .normal σ')) : wpc E (.drawn ops) σ Q := by
  rw [wpc_drawn]; exact wpd_of h

/-! ### reading the state -/

theorem upd_apply {α : Type} {f : Nat → α} {t n : Nat} {v : α} : upd f t v n = if n = t then v else f n := rfl
theorem put_T {d t : Nat} {v : V} : (σ.put (some d) v).T t = if t = d then v else σ.T t := rfl
theorem put_O {d : Option Nat} {r : Nat} {v : V} : (σ.put d v).O r = σ.O r := by cases d <;> rfl
theorem put_none {v : V} : σ.put none v = σ := rfl
theorem setO_T {r t : Nat} {o : Obj} : (σ.setO r o).T t = σ.T t := rfl
theorem setO_O {r r' : Nat} {o : Obj} : (σ.setO r o).O r' = if r' = r then o else σ.O r' := rfl
theorem put_Of {d : Option Nat} {v : V} : (σ.put d v).O = σ.O := by cases d <;> rfl
theorem evalOpd_tmp {t : Nat} : evalOpd σ (.tmp t) = σ.T t := rfl
theorem evalOpd_const {v : V} : evalOpd σ (.const v) = v := rfl

theorem isPure_of_mem : ∀ {cs : List V}, V.arePure cs = true → ∀ {x : V}, x ∈ cs → x.isPure = true
  | [], _, x, h => by simp at h
  | c :: cs, h, x, hx => by
    simp only [V.arePure, Bool.and_eq_true] at h
    rcases List.mem_cons.1 hx with rfl | hx
    · exact h.1
    · exact isPure_of_mem h.2 hx
theorem arePure_of : ∀ {cs : List V}, (∀ x ∈ cs, V.isPure x = true) → V.arePure cs = true
  | [], _ => rfl
  | c :: cs, h => by
    simp only [V.arePure, Bool.and_eq_true]
    exact ⟨h c (by simp), arePure_of fun x hx => h x (by simp [hx])⟩

theorem enter_pure {args : List V} (h : V.arePure args = true) : enter args = ⟨fun t => args.getD t undefV, fun _ => deadObj⟩ := by
  have key : ∀ (t : Nat) (a : V), args[t]? = some a → a.isPure = true := fun t a ht => isPure_of_mem h (List.mem_of_getElem? ht)
  unfold enter
  congr 1
  · funext t
    cases ha : args[t]? with
    | none => simp [List.getD, ha]
    | some a => have := key t a ha; simp only [List.getD, ha, Option.getD_some]; cases a <;> simp_all [V.isPure]
  · funext t
    cases ha : args[t]? with
    | none => rfl
    | some a => have := key t a ha; cases a <;> simp_all [V.isPure]

/-! ### calls -/

theorem snap_pure {v : V} {k : V → List Nat → Act} (h : v.isPure = true) : snap v k = k v [] := by
  simp [snap, snapV, h]

theorem snapV_pure {d : Nat} {v : V} {k : V → List Nat → Act} (h : v.isPure = true) : snapV d v k = k v [] := by
  cases d <;> simp [snapV, h]

theorem prepare_pure {r0 : Nat} : ∀ {args : List V} {i : Nat} {k : List V → List Nat → List WRef → Act}, V.arePure args = true → prepare r0 args [] i k = k args [] []
  | [], _, _, _ => rfl
  | v :: vs, i, k, h => by
    simp only [V.arePure, Bool.and_eq_true] at h
    simp only [prepare, snap_pure h.1]
    rw [prepare_pure h.2]; rfl

theorem doCall_pure {f r : Nat} {thaw : Bool} {af : AFunc} {args : List V} (hf : E.fn f = some af) (hm : af.modes = []) (hp : V.arePure args = true) :
    doCall E r thaw f args = .call f args fun res => putOuts [] res.outs fun gs => importRes thaw r gs res.val .done := by
  simp only [doCall, hf, hm, prepare_pure hp, apart, List.map_nil, List.all_nil, distinct, Bool.and_self, if_true, freezeAll]
  congr 1; funext res; split <;> rfl
theorem doCall_ext {f r : Nat} {thaw : Bool} {args : List V} (hf : E.fn f = none) (hp : V.arePure args = true) :
    doCall E r thaw f args = .call f args fun res => putOuts [] res.outs fun gs => importRes thaw r gs res.val .done := by
  simp only [doCall, hf, prepare_pure hp, apart, List.map_nil, List.all_nil, distinct, Bool.and_self, if_true, freezeAll]
  congr 1; funext res; split <;> rfl

theorem wpa_pure {f r : Nat} {thaw : Bool} {af : AFunc} {args : List V} {v : V} {Q : V → St → Prop} (hf : E.fn f = some af) (hm : af.modes = []) (hp : V.arePure args = true) (he : Ev E f args ⟨v, []⟩)
    (h : wpa E (importRes thaw r [] v .done) σ Q) : wpa E (doCall E r thaw f args) σ Q := by
  rw [doCall_pure hf hm hp, wpa_call]; exact ⟨_, he, h⟩
theorem wpf_pure {f r : Nat} {thaw : Bool} {af : AFunc} {args : List V} {v : V} {Q : V → St → List Loc → List Loc → Prop} (hf : E.fn f = some af) (hm : af.modes = []) (hp : V.arePure args = true) (he : Ev E f args ⟨v, []⟩)
    (h : wpf E (importRes thaw r [] v .done) σ Q) : wpf E (doCall E r thaw f args) σ Q := by
  rw [doCall_pure hf hm hp, wpf_call]; exact ⟨_, he, h⟩
theorem wpa_ext {f r : Nat} {thaw : Bool} {args : List V} {v : V} {Q : V → St → Prop} (hf : E.fn f = none) (hp : V.arePure args = true) (he : Ev E f args ⟨v, []⟩)
    (h : wpa E (importRes thaw r [] v .done) σ Q) : wpa E (doCall E r thaw f args) σ Q := by
  rw [doCall_ext hf hp, wpa_call]; exact ⟨_, he, h⟩
theorem wpf_ext {f r : Nat} {thaw : Bool} {args : List V} {v : V} {Q : V → St → List Loc → List Loc → Prop} (hf : E.fn f = none) (hp : V.arePure args = true) (he : Ev E f args ⟨v, []⟩)
    (h : wpf E (importRes thaw r [] v .done) σ Q) : wpf E (doCall E r thaw f args) σ Q := by
  rw [doCall_ext hf hp, wpf_call]; exact ⟨_, he, h⟩

/-- a result that leads to nothing new -/
theorem importRes_pure {thaw : Bool} {r : Nat} {gs : List (Nat × Nat × Nat)} {v : V} {k : V → Act} (h : v.isPure = true) : importRes thaw r gs v k = k v := by
  simp [importRes, h]

end

/-! ### functions that are answered by themselves -/
/-- slices.Clone -/
def cloneV (sz lim : Nat) : List V → Option Res
  | [.nils] => some ⟨.own sz [], []⟩
  | [.lit sz' xs] => if sz' = sz ∧ xs.length ≤ lim then some ⟨.own sz xs, []⟩ else none
  | _ => none
/-- math.sqrt -/
def sqrtV : List V → Option Res
  | [.float b] => match FloatKind.f64.format.sqrt b with
    | some r => some ⟨.float r, []⟩
    | none => none
  | _ => none

theorem frz_pure {v : V} {k : V → Act} (h : v.isPure = true) : frz v k = k v := by
  cases v <;> simp_all [frz]
theorem outsOf_pure {O : Nat → Obj} : ∀ {args : List V} {i : Nat}, V.arePure args = true → outsOf O i args = some []
  | [], _, _ => rfl
  | a :: as, i, h => by
    simp only [V.arePure, Bool.and_eq_true] at h
    have := outsOf_pure (O := O) (i := i + 1) h.2
    cases a <;> simp_all [outsOf, V.isPure]
theorem exportV_pure {n : Nat} {σ : St} {v : V} (h : v.isPure = true) : exportV n σ v = some (v, []) := by
  simp [exportV, h]
theorem part_cell {sz : Nat} {v : V} (h : v.isCell = true) : part false 0 sz v = some v := by
  cases v <;> simp_all [part, V.isCell]

/-! ### slices that came in -/

/-- a slice of so many cells an element that holds this -/
def IsSl (sz : Nat) (xs : List V) (v : V) : Prop := v = .lit sz xs ∨ v = .nils ∧ xs = []

theorem IsSl.pure {sz : Nat} {xs : List V} {v : V} (h : IsSl sz xs v) : v.isPure = true := by
  rcases h with rfl | ⟨rfl, _⟩ <;> rfl
theorem IsSl.len {sz : Nat} {xs : List V} {v : V} (h : IsSl sz xs v) : lenV v = some (.int .i64 xs.length) := by
  rcases h with rfl | ⟨rfl, rfl⟩ <;> rfl
theorem IsSl.lit {sz : Nat} {xs : List V} : IsSl sz xs (.lit sz xs) := .inl rfl
theorem IsSl.isCell {sz : Nat} {xs : List V} {v : V} (h : IsSl sz xs v) : v.isCell = true := by
  rcases h with rfl | ⟨rfl, _⟩ <;> rfl

/-- the address of an element -/
def idxAct (sz : Nat) (v i : V) : Act :=
  match v, i with
  | .sl r g off len, .int _ n => .getO r fun o => if 0 ≤ n ∧ n < len ∧ o.sz = sz ∧ o.gen = g then .done (.ptr r g (off + n.toNat) 0) else .fail
  | .lit sz' xs, .int _ n => if 0 ≤ n ∧ sz' = sz then match xs[n.toNat]? with
      | some e => .done (.eptr e 0)
      | none => .fail
    else .fail
  | _, _ => .fail
theorem aop_indexAddr {E : Env} {sz : Nat} {x i : AOpd} : opAct E (.indexAddr sz x i) = ev x fun v => ev i fun i => idxAct sz v i := rfl
theorem idx_sl {sz : Nat} {xs : List V} {v : V} (h : IsSl sz xs v) {K : IntKind} {n : Int} : idxAct sz v (.int K n) = if 0 ≤ n then (match xs[n.toNat]? with
    | some e => .done (.eptr e 0)
    | none => .fail) else .fail := by
  rcases h with rfl | ⟨rfl, rfl⟩
  · simp [idxAct]
  · simp [idxAct]
theorem len_sl {sz : Nat} {xs : List V} {v : V} (h : IsSl sz xs v) : lenV v = some (.int .i64 xs.length) := h.len
theorem content_sl {sz : Nat} {xs : List V} {v : V} (h : IsSl sz xs v) {k : List V → Act} : content sz v k = k xs := by
  rcases h with rfl | ⟨rfl, rfl⟩ <;> simp [content]

/-- a part of a slice -/
def slcAct (sz : Nat) (v : V) (l h m : Option V) : Act :=
  match v with
  | .sl r g off len => .getO r fun o => match o.es with
    | some es => if o.gen = g ∧ o.sz = sz then
        match boundOf 0 l, boundOf len h, m with
        | some l, some h, none => if l ≤ h ∧ off + h ≤ es.length then .done (.sl r g (off + l) (h - l)) else .fail
        | some l, some h', some m => match h, boundOf 0 (some m) with
          | some _, some m => if l ≤ h' ∧ h' ≤ m ∧ off + m ≤ es.length then .done (if m = l then .nils else .any) else .fail
          | _, _ => .fail
        | _, _, _ => .fail
      else .fail
    | none => .fail
  | v => give (sliceV sz v l h m)
theorem aop_slice {E : Env} {sz : Nat} {x : AOpd} {lo hi mx : Option AOpd} : opAct E (.slice sz x lo hi mx) = ev x fun v => evo lo fun l => evo hi fun h => evo mx fun m => slcAct sz v l h m := rfl

/-- what is appended to a slice -/
def appAct (r sz lim : Nat) (s : V) (ys : List V) : Act :=
  if ys.all (isBlank · sz) && decide (0 < sz) then match s with
    | .nils => if ys.isEmpty then .done .nils else if ys.length ≤ lim then
        .getO r fun o => .setO r { gen := o.gen + 1, sz, arr := true, fz := false, es := some ys } (.done (.sl r (o.gen + 1) 0 ys.length)) else .fail
    | .lit sz' xs => if ys.isEmpty then .done (.lit sz' xs) else .fail
    | .sl r' g off len => .getO r' fun o => match o.es with
      | some es => if o.gen = g ∧ o.arr = true ∧ o.fz = false ∧ o.sz = sz ∧ off + len ≤ es.length ∧ len + ys.length ≤ lim then
            if off + len + ys.length ≤ es.length then
              .setO r' { o with es := some (overwrite es (off + len) ys) } (.done (.sl r' g off (len + ys.length)))
            else
              .setO r' { o with gen := g + 1, es := some (window es off len ++ ys) } (.done (.sl r' (g + 1) 0 (len + ys.length)))
        else .fail
      | none => .fail
    | _ => .fail
    else .fail
theorem aop_append {E : Env} {r sz lim : Nat} {s x : AOpd} : opAct E (.append r sz lim s x) = ev s fun s => ev x fun x => content sz x fun ys => frzs ys fun ys => appAct r sz lim s ys := rfl

theorem frzs_pure {ys : List V} {k : List V → Act} (h : V.arePure ys = true) : frzs ys k = k ys := by simp [frzs, h]
theorem app_sl {r sz lim r' g off len : Nat} {ys : List V} (h : ys.all (isBlank · sz) = true) (h0 : 0 < sz) : appAct r sz lim (.sl r' g off len) ys = .getO r' fun o => match o.es with
      | some es => if o.gen = g ∧ o.arr = true ∧ o.fz = false ∧ o.sz = sz ∧ off + len ≤ es.length ∧ len + ys.length ≤ lim then
            if off + len + ys.length ≤ es.length then
              .setO r' { o with es := some (overwrite es (off + len) ys) } (.done (.sl r' g off (len + ys.length)))
            else
              .setO r' { o with gen := g + 1, es := some (window es off len ++ ys) } (.done (.sl r' (g + 1) 0 (len + ys.length)))
        else .fail
      | none => .fail := by
  simp only [appAct]
  rw [h]; simp [h0]
theorem app_nils {r sz lim : Nat} {ys : List V} (h : ys.all (isBlank · sz) = true) (h0 : 0 < sz) : appAct r sz lim .nils ys = if ys.isEmpty then .done .nils else if ys.length ≤ lim then
        .getO r fun o => .setO r { gen := o.gen + 1, sz, arr := true, fz := false, es := some ys } (.done (.sl r (o.gen + 1) 0 ys.length)) else .fail := by
  simp only [appAct]
  rw [h]; simp [h0]
theorem window_map {α : Type} (f : α → V) (l : List α) (a b : Nat) : AM.window (l.map f) a b = ((l.drop a).take b).map f := by
  simp [AM.window, List.map_take, List.map_drop]
theorem window_all {xs : List V} {n : Nat} (h : n = xs.length) : AM.window xs 0 n = xs := by
  subst h; simp [AM.window]

/-! ### the first place -/
def firstIdx {α : Type} (p : α → Bool) (xs : List α) : Int := match xs.findIdx? p with
  | some i => i
  | none => -1
theorem firstIdx_found {α : Type} {p : α → Bool} {xs : List α} {i : Nat} {x : α} (h : ∀ j y, j < i → xs[j]? = some y → p y = false) (hx : xs[i]? = some x) (hp : p x = true) : firstIdx p xs = i := by
  have : xs.findIdx? p = some i := by
    rw [List.findIdx?_eq_some_iff_getElem]
    obtain ⟨hl, hv⟩ := List.getElem?_eq_some_iff.1 hx
    refine ⟨hl, by rw [hv]; exact hp, fun j hj => ?_⟩
    have := h j _ hj (List.getElem?_eq_getElem (by omega))
    simp [this]
  simp [firstIdx, this]
theorem firstIdx_none {α : Type} {p : α → Bool} {xs : List α} (h : ∀ (j : Nat) (y : α), xs[j]? = some y → p y = false) : firstIdx p xs = -1 := by
  have : xs.findIdx? p = none := by
    rw [List.findIdx?_eq_none_iff]
    intro x hx
    obtain ⟨j, hj⟩ := List.mem_iff_getElem?.1 hx
    exact h j x hj
  simp [firstIdx, this]

theorem int_beq (a b : Int) : (a == b) = decide (a = b) := by
  by_cases h : a = b
  · simp [h]
  · simp [h]
theorem int_bne (a b : Int) : (a != b) = !decide (a = b) := by simp [bne, int_beq]
theorem wrap64 {n : Int} (h0 : -9223372036854775808 ≤ n) (h1 : n ≤ 9223372036854775807) : IntKind.i64.wrap n = n := by
  simp [IntKind.wrap, IntKind.bits, IntKind.signed]
  omega

/-! ### the stepping rules -/
attribute [go_sem]
  wpc_seq wpc_region wpc_skip wpc_exit wpc_ret wpc_scope wpc_block wpc_cond
  wpo_cons wpo_nil wpx_cons wpx_nil operAct aop_indexAddr aop_slice aop_append
  opAct.putIn wpa_getT wpa_getO wpa_setO wpa_done wpa_fail wpa_give wpa_ite
  wpf_getT wpf_getO wpf_setO wpf_done wpf_fail wpf_give wpf_ite isBlank
  V.lies V.isPure V.arePure V.isScalar V.areScalar frz_pure outsOf_pure exportV_pure
  importRes_pure part_cell put_T put_O setO_T setO_O put_none dstLoc
  deadObj andThen outOf evalOpd_tmp evalOpd_const boolV undefV Res.mk.injEq
  V.int.injEq V.tuple.injEq List.cons.injEq V.bool.injEq V.str.injEq V.agg.injEq List.getD_cons_zero List.getD_cons_succ
  List.getD_nil List.length_cons List.length_nil List.getElem?_cons_zero List.getElem?_cons_succ List.set_cons_zero List.set_cons_succ List.take_succ_cons
  List.take_zero List.drop_succ_cons List.drop_zero List.take_nil List.drop_nil List.cons_append List.nil_append List.append_nil
  Nat.zero_add Nat.add_zero BEq.rfl Bool.true_or Bool.or_true Bool.false_or Bool.or_false Bool.and_true
  Bool.true_and Bool.and_false Bool.false_and Bool.and_self Bool.or_self Bool.false_eq_true Bool.true_eq_false Bool.not_true
  Bool.not_false Nat.lt_add_one Nat.le_refl decide_true decide_false decide_eq_true_eq if_true if_false
  true_and and_true and_self false_and and_false Nat.sub_zero Option.some.injEq Nat.zero_lt_one
  Nat.lt_irrefl ne_eq not_true_eq_false not_false_eq_true V.cells.eq_1 V.cells.eq_2 V.isAgg.eq_1 V.isAgg.eq_2
  V.isCell.eq_1 V.isCell.eq_2 V.isCell.eq_3 V.isCell.eq_4 V.isCell.eq_5 V.isCell.eq_6 V.isCell.eq_7 V.isTuple.eq_1
  V.isTuple.eq_2 AM.part.eq_1 AM.part.eq_2 AM.part.eq_3 AM.part.eq_4 AM.putPart.eq_1 AM.putPart.eq_2 AM.putPart.eq_3
  AM.putPart.eq_4 lenV.eq_1 lenV.eq_2 lenV.eq_3 lenV.eq_4 boundOf.eq_1 boundOf.eq_2 boundOf.eq_3
  sliceStrV.eq_1 sliceStrV.eq_2 content.eq_1 content.eq_2 content.eq_3 content.eq_4 content.eq_5 fillCells.eq_1
  fillCells.eq_2 fillElems.eq_1 fillElems.eq_2 frz.eq_1 frz.eq_2 frzCell.eq_1 frzCell.eq_2 frzCell.eq_3
  frzCell.eq_4 frzCell.eq_5 frzCell.eq_6 frzCells.eq_1 frzCells.eq_2 frzs.eq_1 frzs.go.eq_1 frzs.go.eq_2
  importRes.eq_1 importRes.eq_2 importV.eq_1 importV.eq_2 importVs.eq_1 importVs.eq_2 importCell.eq_1 importCell.eq_2
  importCell.eq_3 importCells.eq_1 importCells.eq_2 exportCell.eq_1 exportCell.eq_2 exportCells.eq_1 exportCells.eq_2 exportV.eq_1
  exportV.eq_2 exportV.eq_3 exportVs.eq_1 exportVs.eq_2 resultOf.eq_1 resultOf.eq_2 resultsOf.eq_1 resultsOf.eq_2
  outsOf.eq_1 outsOf.eq_2 outsOf.eq_3 outsOf.eq_4 binV.eq_1 binV.eq_2 binV.eq_3 binV.eq_4
  binV.eq_5 binV.eq_6 binV.eq_7 binV.eq_8 binV.eq_9 binV.eq_10 binV.eq_11 binV.eq_12
  binV.eq_13 binV.eq_14 binV.eq_15 binV.eq_16 binV.eq_17 binV.eq_18 binV.eq_19 binV.eq_20
  binV.eq_21 cmpInt.eq_1 cmpInt.eq_2 cmpInt.eq_3 cmpInt.eq_4 cmpInt.eq_5 cmpInt.eq_6 cmpInt.eq_7
  unV.eq_1 unV.eq_2 unV.eq_3 unV.eq_4 min2.eq_1 min2.eq_2 max2.eq_1 max2.eq_2
  foldV.eq_1 foldV.eq_2 foldV1.eq_1 foldV1.eq_2 eqK.eq_1 eqK.eq_2 eqK.eq_3 eqK.eq_4
  eqKs.eq_1 eqKs.eq_2 eqKs.eq_3 evParts.eq_1 evParts.eq_2 evElems.eq_1 evElems.eq_2 ev.eq_1
  ev.eq_2 evs.eq_1 evs.eq_2 evo.eq_1 evo.eq_2 idxAct.eq_1 idxAct.eq_2 idxAct.eq_3
  give.eq_1 give.eq_2 leave.eq_1 distinct.eq_1 distinct.eq_2 fin.eq_1 fin.eq_2 fin.eq_3
  opAct.eq_1 opAct.eq_2 opAct.eq_3 opAct.eq_4 opAct.eq_5 opAct.eq_6 opAct.eq_7 opAct.eq_8
  opAct.eq_9 opAct.eq_10 opAct.eq_11 opAct.eq_12 opAct.eq_13 opAct.eq_14 opAct.eq_15 opAct.eq_16
  opAct.eq_17 opAct.eq_18 opAct.eq_19 opAct.eq_20 opAct.eq_21 opAct.eq_23 opAct.eq_24 opAct.eq_26
  opAct.eq_27 opAct.eq_28 opAct.eq_29 opAct.eq_30 opAct.eq_31 opAct.eq_32 opAct.eq_34 opAct.eq_35
  opAct.eq_36 opAct.eq_37 opAct.eq_38 slcAct.eq_1 apart freezeAll.eq_1 freezeAll.eq_2 putOuts.eq_1
  putOuts.eq_2 putOuts.eq_3 lookRef.eq_1 lookRef.eq_2 List.map_nil List.map_cons List.all_nil List.all_cons
  List.contains_nil List.contains_cons sliceV.eq_1 sliceV.eq_2 Option.isSome_some Option.isSome_none Option.isNone_none Option.isNone_some
  int_beq int_bne bne_self_eq_false Bool.bne_true Bool.bne_false Bool.true_bne Bool.false_bne window_all
  List.isEmpty_cons List.isEmpty_nil eq_self List.replicate_succ List.replicate_zero frzs_pure Int.cast_ofNat_Int Int.toNat_zero
  Int.toNat_one Int.neg_ofNat_le_ofNat Int.natCast_nonneg Int.toNat_natCast Int.toNat_natCast_add_one Int.ofNat_lt wrap64 Int.le_refl

end Go.AM
