/-
  Texts of the proof, joined by program: AmS5, SData, SGatherA, AmSqrt, SExact, SGatherB, SSortA, SSortE, SSortE2, SGatherC, SGatherD, SGatherE, SGatherF, SGatherG, SGatherH, SGatherI, SMadeA, SMadeB, SMadeC, SMadeD. Own work.
-/
import Derived.Test.YtijdfmemdmmebaaGreatPartE
import Derived.KernelRfl
set_option linter.unusedSimpArgs false
set_option linter.unusedVariables false
namespace Go.AM

def operS (E : Env) (o : AOper) : Act2 := match o.guard with
  | none => op2 E o.op
  | some (t, want) => .getT t fun
    | .bool b => (match want with
      | true => .ite b (op2 E o.op) (.done undefV)
      | false => .ite b (.done undefV) (op2 E o.op))
    | .tuple [] => .done undefV
    | _ => .fail
theorem Ref.oper {E : Env} {o : AOper} : Ref (operS E o) (operAct E o) := by
  unfold operS operAct
  cases o.guard with
  | none => exact Ref.op
  | some p =>
    obtain ⟨t, want⟩ := p
    refine ⟨_, rfl, fun v => ?_⟩
    cases v <;> first | trivial | skip
    case bool b => cases b <;> cases want <;> simp [Ref, Ref.op]
    case tuple vs => cases vs with
      | nil => exact rfl
      | cons => trivial

def regS (E : Env) : List AOper → SS → (SS → Prop) → Prop
  | [], S, Q => Q S
  | o :: os, S, Q => sAct E (operS E o) S fun v S' _ _ => match S' with
    | ⟨T, O⟩ => match o.dst with
      | some d => regS E os ⟨(d, v) :: T, O⟩ Q
      | none => regS E os ⟨T, O⟩ Q
def drwS (E : Env) : List AOper → SS → (List Foot → SS → Prop) → Prop
  | [], S, Q => Q [] S
  | o :: os, S, Q => sAct E (operS E o) S fun v S' r w => match S' with
    | ⟨T, O⟩ => match o.dst with
      | some d => drwS E os ⟨(d, v) :: T, O⟩ fun fs S'' => Q (⟨r, .t d :: w⟩ :: fs) S''
      | none => drwS E os ⟨T, O⟩ fun fs S'' => Q (⟨r, w⟩ :: fs) S''

section
variable {E : Env}

theorem wpa_of_wpf {a : Act} {σ : St} {Q : V → St → Prop} (h : wpf E a σ fun v σ' _ _ => Q v σ') : wpa E a σ Q := by
  obtain ⟨n, v, σ', h1, h2⟩ := h
  exact ⟨n, v, σ', h1, h2⟩

theorem regS_sound : ∀ {os : List AOper} {S : SS} {Q : SS → Prop} {σ : St}, regS E os S Q → S.On σ → wpo E os σ fun σ' => ∃ S', S'.On σ' ∧ Q S'
  | [], S, Q, σ, h, ho => by rw [wpo_nil]; exact ⟨S, ho, h⟩
  | o :: os, S, Q, σ, h, ho => by
    rw [wpo_cons]
    refine wpa_of_wpf (wpf_mono (sAct_sound Ref.oper h ho) ?_)
    rintro v σ' r w ⟨⟨T, O⟩, ho', h'⟩
    have hp := ho'.put o.dst v
    cases hd : o.dst with
    | none => simp only [hd] at h' hp ⊢; exact regS_sound h' hp
    | some d => simp only [hd] at h' hp ⊢; exact regS_sound h' hp
theorem drwS_sound : ∀ {os : List AOper} {S : SS} {Q : List Foot → SS → Prop} {σ : St}, drwS E os S Q → S.On σ → wpx E os σ fun fs σ' => ∃ S', S'.On σ' ∧ Q fs S'
  | [], S, Q, σ, h, ho => by rw [wpx_nil]; exact ⟨S, ho, h⟩
  | o :: os, S, Q, σ, h, ho => by
    rw [wpx_cons]
    refine wpf_mono (sAct_sound Ref.oper h ho) ?_
    rintro v σ' r w ⟨⟨T, O⟩, ho', h'⟩
    have hp := ho'.put o.dst v
    cases hd : o.dst with
    | none => simp only [hd] at h' hp ⊢; exact drwS_sound h' hp
    | some d => simp only [hd] at h' hp ⊢; exact drwS_sound h' hp

def thenS (Q : AExit → SS → Prop) (k : SS → Prop) : AExit → SS → Prop
  | .normal, S => k S
  | .exit id, S => Q (.exit id) S
  | .ret, S => Q .ret S
def outS (id : Nat) (Q : AExit → SS → Prop) : AExit → SS → Prop
  | .exit id', S => bif Nat.beq id' id then Q .normal S else Q (.exit id') S
  | .normal, S => Q .normal S
  | .ret, S => Q .ret S

/-- what a loop comes to -/
structure LoopS (E : Env) (b : ACode) (S : SS) (Q : AExit → SS → Prop) : Prop where
  h : ∀ σ, S.On σ → wpc E (.loop b) σ fun e σ' => ∃ S', S'.On σ' ∧ Q e S'

def wps (E : Env) : ACode → SS → (AExit → SS → Prop) → Prop
  | .skip, S, Q => Q .normal S
  | .region ops, S, Q => regS E ops S (Q .normal)
  | .drawn ops, S, Q => drwS E ops S fun fs S' => Need (chk (ops.map (·.pre)) [] [] fs = true) (Q .normal S')
  | .seq a b, S, Q => wps E a S (thenS Q fun S' => wps E b S' Q)
  | .cond c a b, S, Q => match c with
    | .tmp t => (match lk S.T t with
      | some (.bool c) => Br c (wps E a S Q) (wps E b S Q)
      | _ => False)
    | .const (.bool c) => Br c (wps E a S Q) (wps E b S Q)
    | _ => False
  | .block id b, S, Q => wps E b S (outS id Q)
  | .loop b, S, Q => LoopS E b S Q
  | .exit id, S, Q => Q (.exit id) S
  | .ret, S, Q => Q .ret S
  | .scope b, S, Q => wps E b S Q
  | .bad, _, _ => False

theorem wps_sound : ∀ {c : ACode} {S : SS} {Q : AExit → SS → Prop} {σ : St}, wps E c S Q → S.On σ → wpc E c σ fun e σ' => ∃ S', S'.On σ' ∧ Q e S'
  | .skip, S, Q, σ, h, ho => by rw [wpc_skip]; exact ⟨S, ho, h⟩
  | .region ops, S, Q, σ, h, ho => by rw [wpc_region]; exact regS_sound h ho
  | .drawn ops, S, Q, σ, h, ho => by
    refine wpc_drawn_of ?_
    have h1 := drwS_sound h ho
    refine wpx_mono h1 ?_
    rintro fs σ' ⟨S', h2, h3, h4⟩
    exact ⟨h3, S', h2, h4⟩
  | .seq a b, S, Q, σ, h, ho => by
    rw [wpc_seq]
    refine wpc_mono (wps_sound (c := a) h ho) ?_
    rintro e σ' ⟨S', h1, h2⟩
    cases e with
    | normal => exact wps_sound (c := b) h2 h1
    | exit id => exact ⟨S', h1, h2⟩
    | ret => exact ⟨S', h1, h2⟩
  | .cond c a b, S, Q, σ, h, ho => by
    rw [wpc_cond]
    simp only [wps] at h
    cases c with
    | tmp t =>
      simp only at h
      split at h
      · rename_i c hc
        rw [evalOpd_tmp, ho.1 t _ hc]
        cases c with
        | true => exact wps_sound (c := a) (h.1 rfl) ho
        | false => exact wps_sound (c := b) (h.2 rfl) ho
      · exact h.elim
    | const v =>
      cases v
      case bool c =>
        rw [evalOpd_const]
        cases c with
        | true => exact wps_sound (c := a) (h.1 rfl) ho
        | false => exact wps_sound (c := b) (h.2 rfl) ho
      all_goals exact h.elim
  | .block id b, S, Q, σ, h, ho => by
    rw [wpc_block]
    refine wpc_mono (wps_sound (c := b) h ho) ?_
    rintro e σ' ⟨S', h1, h2⟩
    cases e with
    | normal => exact ⟨S', h1, h2⟩
    | ret => exact ⟨S', h1, h2⟩
    | exit id' =>
      simp only [outS] at h2
      simp only [outOf]
      cases hb : Nat.beq id' id with
      | true =>
        have := Nat.eq_of_beq_eq_true hb
        simp only [hb, cond_true] at h2
        rw [if_pos this]; exact ⟨S', h1, h2⟩
      | false =>
        have : id' ≠ id := Nat.ne_of_beq_eq_false hb
        simp only [hb, cond_false] at h2
        rw [if_neg this]; exact ⟨S', h1, h2⟩
  | .loop b, S, Q, σ, h, ho => h.h σ ho
  | .exit id, S, Q, σ, h, ho => by rw [wpc_exit]; exact ⟨S, ho, h⟩
  | .ret, S, Q, σ, h, ho => by rw [wpc_ret]; exact ⟨S, ho, h⟩
  | .scope b, S, Q, σ, h, ho => by rw [wpc_scope]; exact wps_sound (c := b) h ho
  | .bad, _, _, _, h, _ => h.elim

theorem win1 {x : V} : window [x] 0 1 = [x] := rfl

/-! ### what is known less -/

/-- all that the first knows, the second one knows -/
def SubL {α : Type} : List (Nat × α) → List (Nat × α) → Prop
  | [], _ => True
  | p :: l, m => (match lk m p.1 with
    | some x => x = p.2
    | none => False) ∧ SubL l m
def SS.Sub (S S' : SS) : Prop := SubL S.T S'.T ∧ SubL S.O S'.O
theorem SubL.lk {α : Type} : ∀ {l m : List (Nat × α)}, SubL l m → ∀ {n x}, lk l n = some x → lk m n = some x
  | [], _, _, n, x, h => by simp [AM.lk] at h
  | p :: l, m, h, n, x, hx => by
    rw [lk_cons] at hx
    by_cases e : p.1 = n
    · rw [if_pos e] at hx
      injection hx with hx
      have := h.1
      subst e
      split at this
      · rename_i y hy; rw [hy, this, hx]
      · exact this.elim
    · rw [if_neg e] at hx
      exact SubL.lk h.2 hx
theorem SS.Sub.on {S S' : SS} (h : S.Sub S') {σ : St} (ho : S'.On σ) : S.On σ :=
  ⟨fun t v hv => ho.1 t v (h.1.lk hv), fun r o hr => ho.2 r o (h.2.lk hr)⟩

/-- what holds after a round -/
def nextS (Q : AExit → SS → Prop) (I : Nat → SS → Prop) (k : Nat) : AExit → SS → Prop
  | .normal, S => ∃ j, j < k ∧ ∃ S', S'.Sub S ∧ I j S'
  | .exit id, S => Q (.exit id) S
  | .ret, S => Q .ret S

theorem LoopS.of {b : ACode} {Q : AExit → SS → Prop} (I : Nat → SS → Prop) (hI : ∀ k S, I k S → wps E b S (nextS Q I k)) {k : Nat} {S0 S : SS} (hs : S0.Sub S) (h0 : I k S0) : LoopS E b S Q := by
  refine ⟨fun σ ho => ?_⟩
  refine wpc_loop_of (fun k σ => ∃ S, S.On σ ∧ I k S) ?_ k σ ⟨S0, hs.on ho, h0⟩
  rintro k σ ⟨S, hS, hi⟩
  refine wpc_mono (wps_sound (hI k S hi) hS) ?_
  rintro e σ' ⟨S', h1, h2⟩
  cases e with
  | normal =>
    obtain ⟨j, hj, S'', h3, h4⟩ := h2
    exact ⟨j, hj, S'', h3.on h1, h4⟩
  | exit id => exact ⟨S', h1, h2⟩
  | ret => exact ⟨S', h1, h2⟩

theorem sAct_mono : ∀ {a : Act2} {S : SS} {Q Q' : KK}, sAct E a S Q → (∀ v S' r w, Q v S' r w → Q' v S' r w) → sAct E a S Q'
  | .done v, _, _, _, h, k => k _ _ _ _ h
  | .fail, _, _, _, h, _ => h
  | .getT t f, S, Q, Q', h, k => by
    simp only [sAct] at h ⊢
    split
    · rename_i v hv
      rw [hv] at h
      exact sAct_mono h fun _ _ _ _ h => k _ _ _ _ h
    · rename_i hv; rw [hv] at h; exact h
  | .getO t f, S, Q, Q', h, k => by
    simp only [sAct] at h ⊢
    split
    · rename_i v hv
      rw [hv] at h
      exact sAct_mono h fun _ _ _ _ h => k _ _ _ _ h
    · rename_i hv; rw [hv] at h; exact h
  | .setO t o f, ⟨T, O⟩, Q, Q', h, k => by
    simp only [sAct] at h ⊢
    exact sAct_mono h fun _ _ _ _ h => k _ _ _ _ h
  | .newO t f, S, Q, Q', h, k => by
    simp only [sAct] at h ⊢
    exact fun g => sAct_mono (h g) fun _ _ _ _ h => k _ _ _ _ h
  | .call f as c, S, Q, Q', h, k => by
    simp only [sAct] at h ⊢
    obtain ⟨res, h1, h2⟩ := h
    exact ⟨res, h1, sAct_mono h2 k⟩
  | .need p c, S, Q, Q', h, k => ⟨h.1, sAct_mono h.2 k⟩
  | .ex α p c, S, Q, Q', h, k => by
    obtain ⟨x, h1, h2⟩ := h
    exact ⟨x, h1, sAct_mono h2 k⟩
  | .ite b x y, S, Q, Q', h, k => ⟨fun hb => sAct_mono (h.1 hb) k, fun hb => sAct_mono (h.2 hb) k⟩
  | .esc a, S, Q, Q', h, k => ⟨fun σ ho => wpf_mono (h.h σ ho) fun v σ' r w ⟨S', h1, h2⟩ => ⟨S', h1, k _ _ _ _ h2⟩⟩
  | .alt x y, S, Q, Q', h, k => by
    rcases h with h | h
    · exact .inl (sAct_mono h k)
    · exact .inr (sAct_mono h k)
  | .all f, S, Q, Q', h, k => fun n => sAct_mono (h n) k
theorem regS_mono : ∀ {os : List AOper} {S : SS} {Q Q' : SS → Prop}, regS E os S Q → (∀ S', Q S' → Q' S') → regS E os S Q'
  | [], _, _, _, h, k => k _ h
  | o :: os, _, _, _, h, k => sAct_mono h fun _ ⟨T, O⟩ _ _ h => by
    cases hd : o.dst with
    | none => simp only [hd] at h ⊢; exact regS_mono h k
    | some d => simp only [hd] at h ⊢; exact regS_mono h k
theorem drwS_mono : ∀ {os : List AOper} {S : SS} {Q Q' : List Foot → SS → Prop}, drwS E os S Q → (∀ fs S', Q fs S' → Q' fs S') → drwS E os S Q'
  | [], _, _, _, h, k => k _ _ h
  | o :: os, _, _, _, h, k => sAct_mono h fun _ ⟨T, O⟩ _ _ h => by
    cases hd : o.dst with
    | none => simp only [hd] at h ⊢; exact drwS_mono h fun _ _ h => k _ _ h
    | some d => simp only [hd] at h ⊢; exact drwS_mono h fun _ _ h => k _ _ h
theorem wps_mono : ∀ {c : ACode} {S : SS} {Q Q' : AExit → SS → Prop}, wps E c S Q → (∀ e S', Q e S' → Q' e S') → wps E c S Q'
  | .skip, _, _, _, h, k => k _ _ h
  | .region _, _, _, _, h, k => regS_mono h fun _ h => k _ _ h
  | .drawn _, _, _, _, h, k => drwS_mono h fun _ _ h => ⟨h.1, k _ _ h.2⟩
  | .seq a b, _, Q, Q', h, k => wps_mono (c := a) h fun e S' h' => by
    cases e with
    | normal => exact wps_mono (c := b) h' k
    | exit id => exact k _ _ h'
    | ret => exact k _ _ h'
  | .cond c a b, S, Q, Q', h, k => by
    simp only [wps] at h ⊢
    cases c with
    | tmp t =>
      simp only at h ⊢
      split at h
      · exact ⟨fun hb => wps_mono (c := a) (h.1 hb) k, fun hb => wps_mono (c := b) (h.2 hb) k⟩
      · exact h.elim
    | const v =>
      cases v
      case bool c => exact ⟨fun hb => wps_mono (c := a) (h.1 hb) k, fun hb => wps_mono (c := b) (h.2 hb) k⟩
      all_goals exact h.elim
  | .block id b, _, Q, Q', h, k => wps_mono (c := b) h fun e S' h' => by
    cases e with
    | normal => exact k _ _ h'
    | ret => exact k _ _ h'
    | exit id' =>
      simp only [outS] at h' ⊢
      cases hb : Nat.beq id' id with
      | true => simp only [hb, cond_true] at h' ⊢; exact k _ _ h'
      | false => simp only [hb, cond_false] at h' ⊢; exact k _ _ h'
  | .loop b, _, _, _, h, k => ⟨fun σ ho => wpc_mono (h.h σ ho) fun e σ' ⟨S', h1, h2⟩ => ⟨S', h1, k _ _ h2⟩⟩
  | .exit _, _, _, _, h, k => k _ _ h
  | .ret, _, _, _, h, k => k _ _ h
  | .scope b, _, _, _, h, k => wps_mono (c := b) h k
  | .bad, _, _, _, h, _ => h

/-- a round ends, the next one begins -/
inductive NxtS {α : Type} (Sh : α → SS) (P : α → Prop) (μ : α → Nat) (a : α) (S : SS) : Prop
  | mk (a' : α) (h1 : μ a' < μ a) (h2 : P a') (h3 : (Sh a').Sub S)
def roundS {α : Type} (Q : AExit → SS → Prop) (Sh : α → SS) (P : α → Prop) (μ : α → Nat) (a : α) : AExit → SS → Prop
  | .normal, S => NxtS Sh P μ a S
  | .exit id, S => Q (.exit id) S
  | .ret, S => Q .ret S
theorem LoopS.by {α : Type} {b : ACode} {Q : AExit → SS → Prop} {S : SS} (Sh : α → SS) (P : α → Prop) (μ : α → Nat) (a0 : α) (hs : (Sh a0).Sub S) (h0 : P a0)
    (step : ∀ a, P a → wps E b (Sh a) (roundS Q Sh P μ a)) : LoopS E b S Q := by
  refine LoopS.of (fun k S => ∃ a, k = μ a ∧ P a ∧ S = Sh a) ?_ hs ⟨a0, rfl, h0, rfl⟩
  rintro k S ⟨a, rfl, hp, rfl⟩
  refine wps_mono (step a hp) fun e S' h => ?_
  cases e with
  | normal =>
    obtain ⟨a', h1, h2, h3⟩ := h
    exact ⟨_, h1, _, h3, a', rfl, h2, rfl⟩
  | exit id => exact h
  | ret => exact h
/-- what is known at the end may be less -/
theorem LoopS.weak {b : ACode} {Q : AExit → SS → Prop} {S : SS} (h : LoopS E b S fun e S' => ∃ S0, S0.Sub S' ∧ Q e S0) : LoopS E b S Q := by
  refine ⟨fun σ ho => wpc_mono (h.h σ ho) ?_⟩
  rintro e σ' ⟨S', h1, S0, h2, h3⟩
  exact ⟨S0, h2.on h1, h3⟩
theorem wrapS (i : Nat) (h : i < 4611686018427387904) : V.int .i64 (IntKind.i64.wrap ((i : Int) + 1)) = V.int .i64 ((i + 1 : Nat) : Int) := by
  rw [wrap64 (by omega) (by omega)]; rfl

/-- less is known, the same is shown -/
theorem wps_sub {c : ACode} {S S0 : SS} {Q : AExit → SS → Prop} (hs : S0.Sub S) (h : wps E c S0 Q) : ∀ σ, S.On σ → wpc E c σ fun e σ' => ∃ S', S'.On σ' ∧ Q e S' :=
  fun σ ho => wps_sound h (hs.on ho)

/-! ### the end of a function -/

def resS (S : SS) : List ARes → (List V → Prop) → Prop
  | [], k => k []
  | .tmp t :: rs, k => (match lk S.T t with
    | some v => resS S rs fun vs => k (v :: vs)
    | none => False)
  | .cell t agg sz :: rs, k => (match lk S.T t with
    | some (.ptr r g idx off) => (match lk S.O r with
      | some ⟨ogen, _, _, _, oes⟩ => (match oes with
        | some [e] => (match idx with
          | 0 => Need (ogen = g) (match part2 agg off sz e with
            | some v => resS S rs fun vs => k (v :: vs)
            | none => False)
          | _ + 1 => False)
        | _ => False)
      | none => False)
    | _ => False)
theorem resS_sound {S : SS} {σ : St} (ho : S.On σ) : ∀ {rs : List ARes} {k : List V → Prop}, resS S rs k → ∃ vs, resultsOf σ rs = some vs ∧ k vs
  | [], k, h => ⟨[], rfl, h⟩
  | .tmp t :: rs, k, h => by
    simp only [resS] at h
    split at h
    · rename_i v hv
      obtain ⟨vs, h1, h2⟩ := resS_sound ho h
      exact ⟨v :: vs, by simp [resultsOf, resultOf, h1, ho.1 t v hv], h2⟩
    · exact h.elim
  | .cell t agg sz :: rs, k, h => by
    simp only [resS] at h
    split at h
    · rename_i r g idx off hv
      split at h
      · rename_i ogen osz oarr ofz oes hr
        split at h
        · rename_i e
          split at h
          · obtain ⟨hg, h⟩ := h
            split at h
            · rename_i v hp
              obtain ⟨vs, h1, h2⟩ := resS_sound ho h
              refine ⟨v :: vs, ?_, h2⟩
              simp [resultsOf, resultOf, h1, ho.1 t _ hv, ho.2 r _ hr, hg, part2_eq hp]
            · exact h.elim
          · exact h.elim
        · exact h.elim
      · exact h.elim
    · exact h.elim

def outsS (S : SS) : Nat → List V → (List (Nat × List V) → Prop) → Prop
  | _, [], k => k []
  | i, .msl sz _ _ _ :: as, k | i, .mptr sz _ _ _ :: as, k => (match lk S.O i with
    | some ⟨ogen, osz, _, ofz, oes⟩ => (match oes with
      | some es => Need (ofz = false ∧ osz = sz ∧ V.arePure es = true) (outsS S (i + 1) as fun outs => k ((ogen, es) :: outs))
      | none => False)
    | none => False)
  | i, _ :: as, k => outsS S (i + 1) as k
theorem outsS_sound {S : SS} {σ : St} (ho : S.On σ) : ∀ {as : List V} {i : Nat} {k : List (Nat × List V) → Prop}, outsS S i as k → ∃ outs, outsOf σ.O i as = some outs ∧ k outs
  | [], i, k, h => ⟨[], by simp [outsOf], by simpa [outsS] using h⟩
  | a :: as, i, k, h => by
    cases a
    case msl sz es' off len =>
      simp only [outsS] at h
      split at h
      · rename_i ogen osz oarr ofz oes hr
        split at h
        · rename_i es
          obtain ⟨hc, h⟩ := h
          obtain ⟨outs, h1, h2⟩ := outsS_sound ho h
          refine ⟨_, ?_, h2⟩
          simp [outsOf, ho.2 i _ hr, h1, hc]
        · exact h.elim
      · exact h.elim
    case mptr sz es' off len =>
      simp only [outsS] at h
      split at h
      · rename_i ogen osz oarr ofz oes hr
        split at h
        · rename_i es
          obtain ⟨hc, h⟩ := h
          obtain ⟨outs, h1, h2⟩ := outsS_sound ho h
          refine ⟨_, ?_, h2⟩
          simp [outsOf, ho.2 i _ hr, h1, hc]
        · exact h.elim
      · exact h.elim
    all_goals
      simp only [outsS] at h
      obtain ⟨outs, h1, h2⟩ := outsS_sound ho h
      exact ⟨outs, by simp [outsOf, h1], h2⟩

def expCellS (n : Nat) (S : SS) (c : V) (k : V → List Nat → Prop) : Prop :=
  match c with
  | .sl r g off len => (match lk S.O r with
    | some ⟨ogen, osz, oarr, ofz, oes⟩ => (match oes with
      | some es => Need (ogen = g ∧ oarr = true) (Wit (fun ys => window es off len = ys) fun ys => Need (off + len ≤ es.length ∧ V.arePure ys = true)
          (bif Nat.blt r n then k (.sl r g off len) [r] else bif ofz then k (.lit osz ys) [] else k (.own osz ys) [r]))
      | none => False)
    | none => False)
  | c => Need (V.isPure c = true) (k c [])
theorem expCellS_sound {n : Nat} {S : SS} {σ : St} (ho : S.On σ) {c : V} {k : V → List Nat → Prop} (h : expCellS n S c k) : ∃ v rs, exportCell n σ c = some (v, rs) ∧ k v rs := by
  unfold expCellS at h
  split at h
  · rename_i r g off len
    split at h
    · rename_i ogen osz oarr ofz oes hr
      split at h
      · rename_i es
        obtain ⟨⟨h1, h2⟩, ys, rfl, ⟨h3, h4⟩, h⟩ := h
        have e1 := ho.2 r _ hr
        simp only [exportCell, e1, h1, h2, h3, h4, and_self, if_true]
        cases hb : Nat.blt r n with
        | true =>
          have : r < n := by simpa [Nat.blt_eq] using hb
          simp only [hb, cond_true] at h
          rw [if_pos this]; exact ⟨_, _, rfl, h⟩
        | false =>
          have : ¬ r < n := by intro hc; rw [← Nat.blt_eq, hb] at hc; simp at hc
          simp only [hb, cond_false] at h
          rw [if_neg this]
          cases hz : ofz with
          | true => simp only [hz, cond_true] at h; exact ⟨_, _, by simp [e1, hz], h⟩
          | false => simp only [hz, cond_false] at h; exact ⟨_, _, by simp [e1, hz], h⟩
      · exact h.elim
    · exact h.elim
  · rename_i hn
    refine ⟨c, [], ?_, h.rest⟩
    have h := h.side
    unfold exportCell
    cases c
    case sl => exact absurd rfl (hn _ _ _ _)
    all_goals simp_all
def expCellsS (n : Nat) (S : SS) : List V → (List V → List Nat → Prop) → Prop
  | [], k => k [] []
  | c :: cs, k => expCellS n S c fun c' r => expCellsS n S cs fun cs' rs => k (c' :: cs') (r ++ rs)
theorem expCellsS_sound {n : Nat} {S : SS} {σ : St} (ho : S.On σ) : ∀ {cs : List V} {k : List V → List Nat → Prop}, expCellsS n S cs k → ∃ v rs, exportCells n σ cs = some (v, rs) ∧ k v rs
  | [], _, h => ⟨[], [], rfl, h⟩
  | c :: cs, k, h => by
    obtain ⟨v, r, h1, h2⟩ := expCellS_sound ho h
    obtain ⟨vs, rs, h3, h4⟩ := expCellsS_sound ho h2
    exact ⟨_, _, by simp [exportCells, h1, h3], h4⟩
def expVS (n : Nat) (S : SS) (v : V) (k : V → List Nat → Prop) : Prop :=
  bif V.isPure v then k v [] else
  match v with
  | .agg cs => expCellsS n S cs fun cs' rs => k (.agg cs') rs
  | .fn f cs => expCellsS n S cs fun cs' rs => Need (V.arePure cs' = true) (k (.fn f cs') rs)
  | v => expCellS n S v k
theorem expVS_sound {n : Nat} {S : SS} {σ : St} (ho : S.On σ) {v : V} {k : V → List Nat → Prop} (h : expVS n S v k) : ∃ v' rs, exportV n σ v = some (v', rs) ∧ k v' rs := by
  unfold expVS at h
  unfold exportV
  cases hp : V.isPure v with
  | true => simp only [hp, cond_true] at h; exact ⟨v, [], by simp, h⟩
  | false =>
    simp only [hp, cond_false] at h
    simp only [Bool.false_eq_true, if_false]
    split at h
    · obtain ⟨cs', rs, h1, h2⟩ := expCellsS_sound ho h
      exact ⟨_, _, by simp [h1], h2⟩
    · obtain ⟨cs', rs, h1, h2, h3⟩ := expCellsS_sound ho h
      exact ⟨_, _, by simp [h1, h2], h3⟩
    · obtain ⟨v', rs, h1, h2⟩ := expCellS_sound ho h
      exact ⟨v', rs, by cases v <;> simp_all, h2⟩
def expVsS (n : Nat) (S : SS) : List V → (List V → List Nat → Prop) → Prop
  | [], k => k [] []
  | c :: cs, k => expVS n S c fun c' r => expVsS n S cs fun cs' rs => k (c' :: cs') (r ++ rs)
theorem expVsS_sound {n : Nat} {S : SS} {σ : St} (ho : S.On σ) : ∀ {cs : List V} {k : List V → List Nat → Prop}, expVsS n S cs k → ∃ v rs, exportVs n σ cs = some (v, rs) ∧ k v rs
  | [], _, h => ⟨[], [], rfl, h⟩
  | c :: cs, k, h => by
    obtain ⟨v, r, h1, h2⟩ := expVS_sound ho h
    obtain ⟨vs, rs, h3, h4⟩ := expVsS_sound ho h2
    exact ⟨_, _, by simp [exportVs, h1, h3], h4⟩

/-- a function ends with this -/
def leaveS (rs : List ARes) (args : List V) (S : SS) (R : Res → Prop) : Prop :=
  resS S rs fun vs => outsS S 0 args fun outs => expVsS args.length S vs fun vs' refs => Need (distinct refs = true) (match vs' with
    | [v] => R ⟨v, outs⟩
    | vs' => R ⟨.tuple vs', outs⟩)
def finS (rs : List ARes) (args : List V) (R : Res → Prop) : AExit → SS → Prop
  | .exit _, _ => False
  | .normal, S => leaveS rs args S R
  | .ret, S => leaveS rs args S R

theorem leaveS_sound {rs : List ARes} {args : List V} {S : SS} {R : Res → Prop} {σ : St} (ho : S.On σ) (h : leaveS rs args S R) : ∃ res, leave ⟨0, 0, [], rs, .skip⟩ args σ = some res ∧ R res := by
  obtain ⟨vs, h1, h⟩ := resS_sound ho h
  obtain ⟨outs, h2, h⟩ := outsS_sound ho h
  obtain ⟨vs', refs, h3, h4, h⟩ := expVsS_sound ho h
  simp only [leave, h1, h2, h3]
  split at h
  · rename_i v
    exact ⟨_, by simp [h4], h⟩
  · rename_i hn
    refine ⟨⟨.tuple vs', outs⟩, ?_, h⟩
    split
    · rename_i v rs' heq
      injection heq with e1; injection e1 with e1 e2
      exact absurd e1 (by intro hh; exact hn v hh)
    · rename_i vs2 rs2 heq
      injection heq with e1; injection e1 with e1 e2
      subst e1 e2
      simp [h4]
    · rename_i heq; simp at heq

/-- how a function begins -/
def enterL : Nat → List V → List (Nat × V)
  | _, [] => []
  | i, .msl _ _ off len :: as => (i, .sl i 0 off len) :: enterL (i + 1) as
  | i, .mptr _ _ idx off :: as => (i, .ptr i 0 idx off) :: enterL (i + 1) as
  | i, v :: as => (i, v) :: enterL (i + 1) as
def enterO : Nat → List V → List (Nat × Obj)
  | _, [] => []
  | i, .msl sz es _ _ :: as => (i, { gen := 0, sz, arr := true, fz := false, es := some es }) :: enterO (i + 1) as
  | i, .mptr sz es _ _ :: as => (i, { gen := 0, sz, arr := false, fz := false, es := some es }) :: enterO (i + 1) as
  | i, _ :: as => enterO (i + 1) as
def enterS (args : List V) : SS := ⟨enterL 0 args, enterO 0 args⟩

theorem enterL_on : ∀ (as pre : List V) (t : Nat) (v : V), lk (enterL pre.length as) t = some v → (enter (pre ++ as)).T t = v
  | [], _, _, _, h => by simp [enterL, lk] at h
  | a :: as, pre, t, v, h => by
    have ih := enterL_on as (pre ++ [a]) t v
    simp only [List.length_append, List.length_cons, List.length_nil, Nat.zero_add, List.append_assoc, List.singleton_append] at ih
    have key : ∀ x, lk ((pre.length, x) :: enterL (pre.length + 1) as) t = some v → (enter (pre ++ a :: as)).T pre.length = x → (enter (pre ++ a :: as)).T t = v := by
      intro x hx hv
      rw [lk_cons] at hx
      by_cases e : pre.length = t
      · simp only [e, if_true, Option.some.injEq] at hx; rw [← hx, ← hv, e]
      · simp only [e, if_false] at hx; exact ih hx
    have hg : (pre ++ a :: as)[pre.length]? = some a := by simp
    cases a
    case msl => exact key _ (by simpa [enterL] using h) (by simp [enter, hg])
    case mptr => exact key _ (by simpa [enterL] using h) (by simp [enter, hg])
    all_goals exact key _ (by simpa [enterL] using h) (by simp [enter, hg])
theorem enterO_on : ∀ (as pre : List V) (t : Nat) (v : Obj), lk (enterO pre.length as) t = some v → (enter (pre ++ as)).O t = v
  | [], _, _, _, h => by simp [enterO, lk] at h
  | a :: as, pre, t, v, h => by
    have ih := enterO_on as (pre ++ [a]) t v
    simp only [List.length_append, List.length_cons, List.length_nil, Nat.zero_add, List.append_assoc, List.singleton_append] at ih
    have key : ∀ x, lk ((pre.length, x) :: enterO (pre.length + 1) as) t = some v → (enter (pre ++ a :: as)).O pre.length = x → (enter (pre ++ a :: as)).O t = v := by
      intro x hx hv
      rw [lk_cons] at hx
      by_cases e : pre.length = t
      · simp only [e, if_true, Option.some.injEq] at hx; rw [← hx, ← hv, e]
      · simp only [e, if_false] at hx; exact ih hx
    have hg : (pre ++ a :: as)[pre.length]? = some a := by simp
    cases a
    case msl => exact key _ (by simpa [enterO] using h) (by simp [enter, hg])
    case mptr => exact key _ (by simpa [enterO] using h) (by simp [enter, hg])
    all_goals exact ih (by simpa [enterO] using h)
theorem enterS_on (args : List V) : (enterS args).On (enter args) :=
  ⟨fun t v h => enterL_on args [] t v h, fun r o h => enterO_on args [] r o h⟩

/-- a function's promise, from its code -/
theorem Ev.of_s {f : Nat} {af : AFunc} {args : List V} {R : Res → Prop} (hf : E.fn f = some af) (hx : E.ext f args = none) (hl : args.length = af.nparams)
    (h : wps E af.body (enterS args) (finS af.results args R)) : ∃ res, Ev E f args res ∧ R res := by
  obtain ⟨n, e, σ', h1, S', h2, h3⟩ := wps_sound h (enterS_on args)
  have key : ∀ {e}, exec E n af.body (enter args) = some (e, σ') → (e = .normal ∨ e = .ret) → leaveS af.results args S' R → ∃ res, Ev E f args res ∧ R res := by
    intro e h1 he hl3
    obtain ⟨res, h4, h5⟩ := leaveS_sound h2 hl3
    refine ⟨res, ⟨n, ?_⟩, h5⟩
    unfold call callWith
    rw [hx]; simp only [hf, hl, if_true, h1]
    rcases he with rfl | rfl <;> exact h4
  cases e with
  | normal => exact key h1 (.inl rfl) h3
  | ret => exact key h1 (.inr rfl) h3
  | exit id => exact h3.elim
theorem Ev.of_s' {f : Nat} {af : AFunc} {args : List V} {res : Res} (hf : E.fn f = some af) (hx : E.ext f args = none) (hl : args.length = af.nparams)
    (h : wps E af.body (enterS args) (finS af.results args (· = res))) : Ev E f args res := by
  obtain ⟨r, h1, rfl⟩ := Ev.of_s hf hx hl h
  exact h1
end
end Go.AM

namespace Go.AM

abbrev Str := List UInt8
abbrev vi (n : Int) : V := .int .i64 n
abbrev vnat (n : Nat) : V := .int .i64 (n : Int)

structure Pt where
  x : Int
  y : Int
  deriving DecidableEq
def Pt.v (p : Pt) : V := .agg [vi p.x, vi p.y]

structure Edge where
  id : Int
  line : List Pt
  left : Int
  right : Int
  deriving DecidableEq
def ptsV (l : List Pt) : V := .lit 2 (l.map Pt.v)
def Edge.v (e : Edge) : V := .agg [vi e.id, ptsV e.line, vi e.left, vi e.right]

structure Face where
  id : Int
  cls : Str
  name : Str
  weight : Int
  dist : Int
  deriving DecidableEq
def Face.v (f : Face) : V := .agg [vi f.id, .str f.cls, .str f.name, vi f.weight, vi f.dist]

structure Way where
  id : Int
  line : List Pt
  level : Int
  cls : Str
  name : Str
  stairs : Bool
  weight : Int
  dist : Int
  deriving DecidableEq
def Way.v (w : Way) : V := .agg [vi w.id, ptsV w.line, vi w.level, .str w.cls, .str w.name, .bool w.stairs, vi w.weight, vi w.dist]

structure Place where
  id : Int
  x : Int
  y : Int
  cls : Str
  name : Str
  weight : Int
  dist : Int
  deriving DecidableEq
def Place.v (p : Place) : V := .agg [vi p.id, vi p.x, vi p.y, .str p.cls, .str p.name, vi p.weight, vi p.dist]

structure Event where
  kind : Int
  at_ : Int
  id : Int
  other : Int
  n : Int
  deriving DecidableEq
def Event.v (e : Event) : V := .agg [vi e.kind, vi e.at_, vi e.id, vi e.other, vi e.n]

structure GMap where
  edges : List Edge
  faces : List Face
  ways : List Way
  places : List Place
def GMap.v (m : GMap) : V := .agg [.lit 4 (m.edges.map Edge.v), .lit 5 (m.faces.map Face.v), .lit 8 (m.ways.map Way.v), .lit 7 (m.places.map Place.v)]

theorem arePure_of_all : ∀ {cs : List V}, (∀ x ∈ cs, V.isPure x = true) → V.arePure cs = true
  | [], _ => rfl
  | c :: cs, h => by
    simp only [V.arePure, Bool.and_eq_true]
    exact ⟨h c (by simp), arePure_of_all fun x hx => h x (by simp [hx])⟩
theorem pures {α : Type} {f : α → V} (h : ∀ x, (f x).isPure = true) (l : List α) : V.arePure (l.map f) = true :=
  arePure_of_all fun x hx => by obtain ⟨y, _, rfl⟩ := List.mem_map.1 hx; exact h y
theorem blanks {α : Type} {f : α → V} {sz : Nat} (h : ∀ x, isBlank (f x) sz = true) (l : List α) : (l.map f).all (isBlank · sz) = true := by
  simp [List.all_eq_true, h]
theorem areScalars {α : Type} {f : α → V} (h : ∀ x, (f x).isScalar = true) : ∀ (l : List α), V.areScalar (l.map f) = true
  | [] => rfl
  | x :: l => by simp only [List.map_cons, V.areScalar, h x, areScalars h l, Bool.and_self]

theorem Pt.pures (l : List Pt) : V.arePure (l.map Pt.v) = true := AM.pures (fun _ => rfl) l
theorem Edge.pures (l : List Edge) : V.arePure (l.map Edge.v) = true := AM.pures (fun _ => rfl) l
theorem Face.pures (l : List Face) : V.arePure (l.map Face.v) = true := AM.pures (fun _ => rfl) l
theorem Way.pures (l : List Way) : V.arePure (l.map Way.v) = true := AM.pures (fun _ => rfl) l
theorem Place.pures (l : List Place) : V.arePure (l.map Place.v) = true := AM.pures (fun _ => rfl) l
theorem Event.pures (l : List Event) : V.arePure (l.map Event.v) = true := AM.pures (fun _ => rfl) l

theorem map_get {α : Type} {f : α → V} {l : List α} {i : Nat} {n : Int} {x : α} (h : l[i]? = some x) (hn : n = (i : Int)) : (l.map f)[n.toNat]? = some (f x) := by
  subst hn; simp [h]
theorem get_lt {α : Type} {l : List α} {i : Nat} (h : i < l.length) : l[i]? = some l[i] := List.getElem?_eq_getElem h
theorem map_len {α β : Type} {f : α → β} {l : List α} : (l.map f).length = l.length := List.length_map ..
theorem win_all {α : Type} {f : α → V} {l : List α} {n : Nat} (h : n = l.length) : window (l.map f) 0 n = l.map f := by
  subst h; unfold window; rw [List.drop_zero, List.take_of_length_le (by simp)]
theorem win_self {l : List V} {n : Nat} (h : n = l.length) : window l 0 n = l := by
  subst h; simp [window]

def w64 (n : Int) : Int := IntKind.i64.wrap n
theorem w64_id {n : Int} (h0 : -9223372036854775808 ≤ n) (h1 : n ≤ 9223372036854775807) : w64 n = n := wrap64 h0 h1

theorem arePure_mem : ∀ {cs : List V}, V.arePure cs = true → ∀ x ∈ cs, V.isPure x = true
  | [], _, x, h => by simp at h
  | c :: cs, h, x, hx => by
    simp only [V.arePure, Bool.and_eq_true] at h
    rcases List.mem_cons.1 hx with rfl | hx
    · exact h.1
    · exact arePure_mem h.2 x hx
theorem arePure_append {a b : List V} (h : V.arePure a = true) (k : V.arePure b = true) : V.arePure (a ++ b) = true :=
  arePure_of_all fun x hx => by
    rcases List.mem_append.1 hx with hx | hx
    · exact arePure_mem h x hx
    · exact arePure_mem k x hx
theorem arePure_overwrite {es ys : List V} {o : Nat} (h : V.arePure es = true) (k : V.arePure ys = true) : V.arePure (overwrite es o ys) = true := by
  refine arePure_append (arePure_append (arePure_of_all fun x hx => ?_) k) (arePure_of_all fun x hx => ?_)
  · exact arePure_mem h x (List.mem_of_mem_take hx)
  · exact arePure_mem h x (List.mem_of_mem_drop hx)
theorem arePure_win {es : List V} {o n : Nat} (h : V.arePure es = true) : V.arePure (window es o n) = true :=
  arePure_of_all fun x hx => arePure_mem h x (List.mem_of_mem_drop (List.mem_of_mem_take hx))
theorem arePure_replicate {n : Nat} {z : V} (h : V.isPure z = true) : V.arePure (List.replicate n z) = true :=
  arePure_of_all fun x hx => by rw [List.eq_of_mem_replicate hx]; exact h

theorem arePure_set {es : List V} {n : Nat} {x : V} (h : V.arePure es = true) (k : V.isPure x = true) : V.arePure (es.set n x) = true :=
  arePure_of_all fun y hy => by
    rcases List.mem_or_eq_of_mem_set hy with hy | rfl
    · exact arePure_mem h y hy
    · exact k
theorem get_set {l : List V} {n : Nat} {x e : V} (h : l[n]? = some e) : (l.set n x)[n]? = some x := by
  have := (List.getElem?_eq_some_iff.1 h).1
  simp [this]
theorem win_pre {α : Type} {f : α → V} {l : List α} {r : List V} {n : Nat} (h : n = l.length) : window (l.map f ++ r) 0 n = l.map f := by
  subst h; unfold window; rw [List.drop_zero, List.take_append_of_le_length (by simp), List.take_of_length_le (by simp)]

theorem set_same {α : Type} {f : α → V} {l : List α} {i : Nat} {x : α} (h : l[i]? = some x) : (l.map f).set i (f x) = l.map f := by
  rw [← List.map_set]
  congr 1
  obtain ⟨hl, rfl⟩ := List.getElem?_eq_some_iff.1 h
  simp

/-! the first place -/
theorem firstIdx_cases {α : Type} (p : α → Bool) (l : List α) : (firstIdx p l = -1 ∧ ∀ (i : Nat) (x : α), l[i]? = some x → p x = false) ∨ ∃ (i : Nat) (x : α), firstIdx p l = (i : Int) ∧ l[i]? = some x ∧ p x = true := by
  unfold firstIdx
  cases h : l.findIdx? p with
  | none =>
    refine .inl ⟨rfl, fun i x hx => ?_⟩
    rw [List.findIdx?_eq_none_iff] at h
    simpa using h x (List.mem_of_getElem? hx)
  | some i =>
    rw [List.findIdx?_eq_some_iff_getElem] at h
    obtain ⟨hl, hp, _⟩ := h
    exact .inr ⟨i, l[i], rfl, List.getElem?_eq_getElem hl, hp⟩

/-- a closure that is called -/
theorem sAct_fn {E : Env} {r : Nat} {thaw : Bool} {g : Nat} {args : List V} {v : V} {S : SS} {Q : KK} (hm : modesOf E g = []) (hp : V.arePure args = true) (he : Ev E g args ⟨v, []⟩) (hv : V.isPure v = true) (k : Q v S [] []) : sAct E (doCall2 E r thaw g args) S Q := by
  have key : ∀ (as : List V) (i : Nat) (kk : List V → List Nat → List WRef → Act2), V.arePure as = true → prepare2 (r + 8) as [] i kk = kk as [] [] := by
    intro as
    induction as with
    | nil => intro i kk _; rfl
    | cons a as ih =>
      intro i kk h
      simp only [V.arePure, Bool.and_eq_true] at h
      simp only [prepare2, snapV2, h.1, cond_true, List.nil_append]
      rw [ih (i + 1) _ h.2]
  unfold doCall2
  rw [hm, key args 0 _ hp]
  refine ⟨rfl, ⟨⟨v, []⟩, he, ?_⟩⟩
  simp only [putOuts2, importRes2, hv, cond_true, sAct]
  exact k
/-! ### one step of a run over written-out states -/
theorem sd {p : Prop} (h : p := by
    first | rfl | omega | assumption | exact AM.pures (fun _ => rfl) _ | ((repeat' (first | rfl | exact AM.pures (fun _ => rfl) _ | refine arePure_append ?_ ?_ | refine arePure_set ?_ ?_ | refine arePure_overwrite ?_ ?_ | refine arePure_win ?_ | refine arePure_replicate ?_)); done) | exact blanks (fun _ => rfl) _ | (and_intros <;> first | rfl | omega | assumption | exact AM.pures (fun _ => rfl) _ | ((repeat' (first | rfl | exact AM.pures (fun _ => rfl) _ | refine arePure_append ?_ ?_ | refine arePure_set ?_ ?_ | refine arePure_overwrite ?_ ?_ | refine arePure_win ?_ | refine arePure_replicate ?_)); done) | (simp only [List.length_map, List.length_append, List.length_cons, List.length_nil, List.length_take, List.length_drop]; done) | (simp only [List.length_map, List.length_append, List.length_cons, List.length_nil, List.length_take, List.length_drop]; omega) | (simp [*]; done) | (simp [*]; omega)) | fail) : p := h
theorem ao {p : Prop} (h : p := by
    first | assumption | rfl | omega | (simp only [List.length_map, List.length_append, List.length_cons, List.length_nil, List.length_take, List.length_drop]; omega) | fail) : p := h
theorem lt {p : Prop} (h : p := by
    first | omega | (simp only [List.length_map] at *; omega) | fail) : p := h
theorem st {p q : Prop} (k : q) (h : q → p := by
    first
    | exact Need.mk ⟨Int.natCast_nonneg _, nextR_ilt (by decide) (by decide), rfl, rfl⟩
    | exact Need.mk (p := chk _ _ _ _ = true) (by kernel_rfl)
    | exact Need.mk sd
    | exact Or.inl ∘ Need.mk sd
    | exact Or.inr
    | exact Wit.mk _ win1
    | exact Wit.mk _ (map_get (get_lt lt) rfl)
    | exact Wit.mk _ (win_all (by first | rfl | (simp; done) | fail))
    | exact Wit.mk _ (win_self (by first | rfl | (simp; done) | (simp; omega) | fail))
    | exact Wit.mk _ rfl
    | exact Br.tt
    | exact Br.ff
    | exact Br.t ao
    | exact Br.f ao
    | exact Br.nt ao
    | exact Br.nf ao
    | exact Br.bt (by first | assumption | (simp; done) | fail)
    | exact Br.bf (by first | assumption | (simp; done) | fail)
    | fail) : p := h k
theorem ai {p q : Prop} (k : q) (h : p := by
    first
    | exact Eq.refl _
    | exact wrapS _ (by omega)
    | exact congrArg (V.int .i64) (wrap64 (by omega) (by omega))
    | exact congrArg (V.int .i64) ((wrap64 (by omega) (by omega)).trans (by omega))
    | (conv => whnf); done
    | ((conv => whnf); simp only [List.map_append, List.map_cons, List.map_nil, List.length_append, List.length_cons, List.length_nil, List.length_map]; done)
    | ((conv => whnf); simp only [List.map_append, List.map_cons, List.map_nil, List.length_append, List.length_cons, List.length_nil, List.length_map]; rfl)
    | ((conv => whnf); first | exact wrapS _ (by omega) | (simp; done) | (simp [*]; done) | (simp; omega))
    | fail) : p ∧ q := ⟨h, k⟩
theorem b1 {c c' : Prop} {_ : Decidable c} {p q : Prop} (h : c' → p) (k : ¬ c' → q) (e : c ↔ c' := by
    (try simp only [List.length_map, List.length_append, List.length_cons, List.length_nil, List.length_take, List.length_drop])
    exact Iff.rfl) : Br (decide c) p q := Br.dec (fun x => h (e.1 x)) (fun x => k fun y => x (e.2 y))
theorem b2 {c c' : Prop} {_ : Decidable c} {p q : Prop} (h : ¬ c' → p) (k : c' → q) (e : c ↔ c' := by
    (try simp only [List.length_map, List.length_append, List.length_cons, List.length_nil, List.length_take, List.length_drop])
    exact Iff.rfl) : Br (!decide c) p q := Br.ndec (fun x => h fun y => x (e.2 y)) (fun x => k (e.1 x))
end Go.AM

set_option maxRecDepth 20000
namespace Go.AM

def findP (ps : List Place) (id : Int) : Int := firstIdx (fun p => decide (p.id = id)) ps

theorem find1_ev (p : Place) (id : Int) : Ev E 34 [p.v, .eptr (vi id) 0] ⟨.bool (decide (p.id = id)), []⟩ := by
  refine Ev.of_s' E_34 (X_34 _) rfl ?_
  (conv => whnf); repeat' ((first | intro g | refine st ?_ | (first | refine b1 ?_ ?_ | refine b2 ?_ ?_ | refine Br.mk ?_ ?_) <;> intro hc | exact rfl) <;> conv => whnf)

theorem indexFunc_ev {l : List Place} {g : Nat} {caps : List V} (hc : V.arePure caps = true) {p : Place → Bool} (hlen : l.length < 4611686018427387904)
    (hp : ∀ x, Ev E g (x.v :: caps) ⟨.bool (p x), []⟩) (hm : modesOf E g = []) : Ev E 33 [.lit 7 (l.map Place.v), .fn g caps] ⟨vi (firstIdx p l), []⟩ := by
  refine Ev.of_s' E_33 (X_33 _) rfl ?_
  (conv => whnf); repeat' ((first | intro g | refine st ?_ | (first | refine b1 ?_ ?_ | refine b2 ?_ ?_ | refine Br.mk ?_ ?_) <;> intro hc | exact rfl) <;> conv => whnf)
  refine LoopS.by (fun i : Nat => ⟨[(0, .lit 7 (l.map Place.v)), (1, .fn g caps), (7, vnat (l.map Place.v).length), (8, vnat i)], []⟩) (fun i => i ≤ l.length ∧ ∀ (j : Nat) y, j < i → l[j]? = some y → p y = false) (fun i => l.length - i) 0 ?_ ?_ ?_
  · (refine ⟨?_, ?_⟩ <;> repeat' (first | exact True.intro | refine ai ?_ | refine And.intro ?_ ?_))
  · simp
  rintro i ⟨hi, hno⟩
  have hcap := hc
  (conv => whnf); repeat' ((first | intro g | refine sAct_fn (by assumption) (by first | assumption | rfl | (simp only [V.arePure, V.isPure, Bool.and_self, Bool.true_and, Bool.and_true, *])) (hp _) rfl ?_ | refine st ?_ | (first | refine b1 ?_ ?_ | refine b2 ?_ ?_ | refine Br.mk ?_ ?_) <;> intro hc | exact rfl) <;> conv => whnf)
  · rw [firstIdx_found hno (get_lt (by omega)) hc]
  · refine NxtS.mk (i+1) (by first | omega | (dsimp only; omega)) ?_ (by (refine ⟨?_, ?_⟩ <;> repeat' (first | exact True.intro | refine ai ?_ | refine And.intro ?_ ?_)))
    refine ⟨by omega, fun j y hj hy => ?_⟩
    by_cases e : j = i
    · subst e
      rw [get_lt (by omega)] at hy
      injection hy with hy; subst hy; exact hc
    · exact hno j y (by omega) hy
  · rw [firstIdx_none fun j y hy => hno j y (by have := (List.getElem?_eq_some_iff.1 hy).1; omega) hy]

def canPP (place into : Int) (a b : Place) : Int :=
  if place = into ∨ a.cls ≠ b.cls ∨ b.weight < a.weight ∨ (a.weight = b.weight ∧ a.id < b.id) then 1
  else if a.dist ≠ b.dist then 25
  else if a.name ≠ [] ∧ b.name ≠ [] ∧ a.name ≠ b.name then 24
  else 0
def canP (ps : List Place) (place into : Int) : Int :=
  if 0 ≤ findP ps place ∧ 0 ≤ findP ps into then
    match ps[(findP ps place).toNat]?, ps[(findP ps into).toNat]? with
    | some a, some b => canPP place into a b
    | _, _ => 0
  else 5

/-- numbers that are there, numbers that are not -/
theorem find_cases (ps : List Place) (id : Int) : findP ps id = -1 ∨ ∃ (i : Nat) (x : Place), findP ps id = (i : Int) ∧ ps[i]? = some x ∧ x.id = id := by
  rcases firstIdx_cases (fun p : Place => decide (p.id = id)) ps with h | ⟨i, x, h1, h2, h3⟩
  · exact .inl h.1
  · exact .inr ⟨i, x, h1, h2, by simpa using h3⟩

section
variable {m : GMap} (hlen : m.places.length < 1000000)
include hlen

theorem find_ev (id : Int) : Ev E 19 [m.v, vi id] ⟨vi (findP m.places id), []⟩ := by
  refine Ev.of_s' E_19 (X_19 _) rfl ?_
  (conv => whnf); repeat' ((first | intro g | refine CallS.mk _ (indexFunc_ev rfl (by omega) (fun x => find1_ev x id) rfl) ?_ | refine st ?_ | (first | refine b1 ?_ ?_ | refine b2 ?_ ?_ | refine Br.mk ?_ ?_) <;> intro hc | exact rfl) <;> conv => whnf)
  all_goals rfl

theorem both_ev (i k : Int) : Ev E 15 [m.v, vi i, vi k] ⟨.tuple [vi (findP m.places i), vi (findP m.places k), .bool (decide (0 ≤ findP m.places i) && decide (0 ≤ findP m.places k))], []⟩ := by
  have h := find_ev hlen
  refine Ev.of_s' E_15 (X_15 _) rfl ?_
  (conv => whnf); repeat' ((first | intro g | refine CallS.mk _ (h _) ?_ | refine st ?_ | (first | refine b1 ?_ ?_ | refine b2 ?_ ?_ | refine Br.mk ?_ ?_) <;> intro hc | exact rfl) <;> conv => whnf)
  all_goals simp [hc]

set_option maxHeartbeats 1000000 in
theorem can_ev (place into : Int) : Ev E 8 [m.v, vi place, vi into] ⟨vi (canP m.places place into), []⟩ := by
  have h := both_ev hlen place into
  rcases find_cases m.places place with h1 | ⟨i, a, h1, ha, hia⟩
  · have r : canP m.places place into = 5 := by simp [canP, h1]
    rw [h1] at h; rw [r]
    refine Ev.of_s' E_8 (X_8 _) rfl ?_
    (conv => whnf); repeat' ((first | intro g | refine CallS.mk _ (h) ?_ | refine st ?_ | (first | refine b1 ?_ ?_ | refine b2 ?_ ?_ | refine Br.mk ?_ ?_) <;> intro hc | exact rfl) <;> conv => whnf)
    all_goals simp_all
  rcases find_cases m.places into with h2 | ⟨k, b, h2, hb, hkb⟩
  · have r : canP m.places place into = 5 := by simp [canP, h2]
    rw [h2] at h; rw [r]
    refine Ev.of_s' E_8 (X_8 _) rfl ?_
    (conv => whnf); repeat' ((first | intro g | refine CallS.mk _ (h) ?_ | refine st ?_ | (first | refine b1 ?_ ?_ | refine b2 ?_ ?_ | refine Br.mk ?_ ?_) <;> intro hc | exact rfl) <;> conv => whnf)
    all_goals simp_all
  have r : canP m.places place into = canPP place into a b := by simp [canP, h1, h2, ha, hb]
  rw [h1, h2] at h
  rw [r]
  refine Ev.of_s' E_8 (X_8 _) rfl ?_
  (conv => whnf); repeat' ((first | intro g | refine Wit.mk _ (map_get ha rfl) ?_ | refine Wit.mk _ (map_get hb rfl) ?_ | refine CallS.mk _ (h) ?_ | refine st ?_ | (first | refine b1 ?_ ?_ | refine b2 ?_ ?_ | refine Br.mk ?_ ?_) <;> intro hc | exact rfl) <;> conv => whnf)
  all_goals (show (⟨vi _, []⟩ : Res) = _; congr 2; unfold canPP; first | (simp [*]; done) | (simp [*]; omega) | (repeat' split) <;> first | rfl | (exfalso; simp_all; done) | (exfalso; simp_all; omega))
end

/-! the reference -/
section
variable {m : GMap} (hlen : m.places.length < 1000000)
include hlen
theorem rplace_ev (id : Int) : Ev E 124 [m.v, vi id] ⟨vi (findP m.places id), []⟩ := by
  refine Ev.of_s' E_124 (X_124 _) rfl ?_
  (conv => whnf); repeat' ((first | intro g | refine st ?_ | (first | refine b1 ?_ ?_ | refine b2 ?_ ?_ | refine Br.mk ?_ ?_) <;> intro hc | exact rfl) <;> conv => whnf)
  refine LoopS.by (fun (p : Nat × Nat) => ⟨[(1, vi id), (2, .ptr 48 p.2 0 0), (5, vnat p.1)], [(48, ⟨p.2, 4, false, false, some [m.v]⟩)]⟩) (fun p => p.1 ≤ m.places.length ∧ ∀ (j : Nat) y, j < p.1 → m.places[j]? = some y → y.id ≠ id) (fun p => m.places.length - p.1) (0, g) ?_ ?_ ?_
  · (refine ⟨?_, ?_⟩ <;> repeat' (first | exact True.intro | refine ai ?_ | refine And.intro ?_ ?_))
  · simp
  rintro ⟨i, g⟩ ⟨hi, hno⟩
  dsimp only at hi hno
  (conv => whnf); repeat' ((first | intro g | refine st ?_ | (first | refine b1 ?_ ?_ | refine b2 ?_ ?_ | refine Br.mk ?_ ?_) <;> intro hc | exact rfl) <;> conv => whnf)
  · have hx := get_lt (l := m.places) (i := i) (by omega)
    have : findP m.places id = i := firstIdx_found (fun j y hj hy => by simpa using hno j y hj hy) hx (by simpa using hc)
    rw [this]
  · refine NxtS.mk ((i+1, g)) (by first | omega | (dsimp only; omega)) ?_ (by (refine ⟨?_, ?_⟩ <;> repeat' (first | exact True.intro | refine ai ?_ | refine And.intro ?_ ?_)))
    refine ⟨by dsimp only; omega, fun j y hj hy => ?_⟩
    by_cases e : j = i
    · subst e
      rw [get_lt (by omega)] at hy
      injection hy with hy; subst hy; exact hc
    · exact hno j y (by dsimp only at hj; omega) hy
  · have : findP m.places id = -1 := firstIdx_none fun j y hy => by simpa using hno j y (by have := (List.getElem?_eq_some_iff.1 hy).1; omega) hy
    rw [this]

set_option maxHeartbeats 1000000 in
theorem rcan_ev (place into : Int) : Ev E 123 [m.v, vi place, vi into] ⟨vi (canP m.places place into), []⟩ := by
  have h := rplace_ev hlen
  have h5 := h place
  have h6 := h into
  rcases find_cases m.places place with h1 | ⟨i, a, h1, ha, hia⟩
  · have r : canP m.places place into = 5 := by simp [canP, h1]
    rw [h1] at h5; rw [r]
    refine Ev.of_s' E_123 (X_123 _) rfl ?_
    (conv => whnf); repeat' ((first | intro g | refine CallS.mk _ (h5) ?_ | refine CallS.mk _ (h6) ?_ | refine st ?_ | (first | refine b1 ?_ ?_ | refine b2 ?_ ?_ | refine Br.mk ?_ ?_) <;> intro hc | exact rfl) <;> conv => whnf)
    all_goals simp_all
  rcases find_cases m.places into with h2 | ⟨k, b, h2, hb, hkb⟩
  · have r : canP m.places place into = 5 := by simp [canP, h2]
    rw [h1] at h5; rw [h2] at h6; rw [r]
    refine Ev.of_s' E_123 (X_123 _) rfl ?_
    (conv => whnf); repeat' ((first | intro g | refine CallS.mk _ (h5) ?_ | refine CallS.mk _ (h6) ?_ | refine st ?_ | (first | refine b1 ?_ ?_ | refine b2 ?_ ?_ | refine Br.mk ?_ ?_) <;> intro hc | exact rfl) <;> conv => whnf)
    all_goals simp_all
  have r : canP m.places place into = canPP place into a b := by simp [canP, h1, h2, ha, hb]
  rw [h1] at h5; rw [h2] at h6
  rw [r]
  refine Ev.of_s' E_123 (X_123 _) rfl ?_
  (conv => whnf); repeat' ((first | intro g | refine Wit.mk _ (map_get ha rfl) ?_ | refine Wit.mk _ (map_get hb rfl) ?_ | refine CallS.mk _ (h5) ?_ | refine CallS.mk _ (h6) ?_ | refine st ?_ | (first | refine b1 ?_ ?_ | refine b2 ?_ ?_ | refine Br.mk ?_ ?_) <;> intro hc | exact rfl) <;> conv => whnf)
  all_goals (show (⟨vi _, []⟩ : Res) = _; congr 2; unfold canPP; first | (simp [*]; done) | (simp [*]; omega) | (repeat' split) <;> first | rfl | (exfalso; simp_all; done) | (exfalso; simp_all; omega))
end
end Go.AM

namespace Go.AM
open Ieee

theorem log2_lt_of {n k : Nat} (h : n < 2 ^ k) (h0 : n ≠ 0) : n.log2 < k := (Nat.log2_lt h0).2 h

/-- what is kept of a number whose last digit lies so -/
theorem kept_bound {mag : Nat} : Toward.even.cut false (mag <<< (52 - mag.log2)) (mag.log2 - 52) ≤ 9007199254740992 := by
  have h1 : mag < 2 ^ (mag.log2 + 1) := Nat.lt_log2_self
  have key : mag <<< (52 - mag.log2) / (1 <<< min (mag.log2 - 52) ((mag <<< (52 - mag.log2)).log2 + 2)) < 9007199254740992 := by
    by_cases he : mag.log2 ≤ 52
    · have e2 : mag.log2 - 52 = 0 := by omega
      rw [e2, Nat.zero_min]
      rw [Nat.shiftLeft_eq, Nat.shiftLeft_eq, Nat.pow_zero, Nat.mul_one, Nat.div_one]
      calc mag * 2 ^ (52 - mag.log2) < 2 ^ (mag.log2 + 1) * 2 ^ (52 - mag.log2) := Nat.mul_lt_mul_of_pos_right h1 (Nat.two_pow_pos _)
        _ = 2 ^ 53 := by rw [← Nat.pow_add]; congr 1; omega
        _ = 9007199254740992 := by decide
    · have e1 : 52 - mag.log2 = 0 := by omega
      rw [e1]
      simp only [Nat.shiftLeft_zero]
      rw [Nat.min_eq_left (by omega)]
      simp only [Nat.shiftLeft_eq, Nat.one_mul]
      refine Nat.div_lt_of_lt_mul ?_
      calc mag < 2 ^ (mag.log2 + 1) := h1
        _ = 2 ^ (mag.log2 - 52) * 2 ^ 53 := by rw [← Nat.pow_add]; congr 1; omega
        _ = 2 ^ (mag.log2 - 52) * 9007199254740992 := by congr 1
  unfold Toward.cut
  simp only
  generalize mag <<< (52 - mag.log2) / (1 <<< min (mag.log2 - 52) ((mag <<< (52 - mag.log2)).log2 + 2)) = low at key ⊢
  have hb : ∀ b : Bool, low + b.toNat ≤ 9007199254740992 := fun b => by have := Bool.toNat_le b; omega
  exact hb _

theorem nearest_bound {mag : Nat} {place : Int} (h0 : mag ≠ 0) (h1 : -1000 ≤ place + mag.log2) (h2 : place + mag.log2 ≤ 200) :
    ∃ w : Nat, double.nearest false mag place = w ∧ w ≤ 4503599627370496 * ((place + mag.log2 + 1022).toNat + 2) := by
  refine ⟨_, rfl, ?_⟩
  unfold Format.nearest
  rw [if_neg h0]
  have e1 : double.leastPlace = -1074 := by simp [Format.leastPlace, double]
  have e2 : double.fractionBits = 52 := rfl
  have e3 : double.binade = 4503599627370496 := by simp [Format.binade, double]
  have e4 : max (place + (mag.log2 : Int) - (double.fractionBits : Nat)) double.leastPlace = place + mag.log2 - 52 := by
    rw [e1, e2]; omega
  rw [e4]
  simp only [Format.word, e1, e3]
  have a1 : (place - (place + (mag.log2 : Int) - 52)).toNat = 52 - mag.log2 := by omega
  have a2 : (place + (mag.log2 : Int) - 52 - place).toNat = mag.log2 - 52 := by omega
  have a3 : (place + (mag.log2 : Int) - 52 - -1074).toNat = (place + mag.log2 + 1022).toNat := by congr 1; omega
  rw [a1, a2, a3]
  have hk := kept_bound (mag := mag)
  simp only [Bool.false_eq_true, if_false]
  refine Nat.le_trans (Nat.min_le_left _ _) ?_
  rw [Nat.mul_add, Nat.mul_comm]
  exact Nat.add_le_add_left hk _

theorem lp : double.leastPlace = -1074 := by simp [Format.leastPlace, double]
theorem bi : double.binade = 4503599627370496 := by simp [Format.binade, double]
theorem sw : double.signWeight = 9223372036854775808 := by simp [Format.signWeight, double]
theorem ir : double.infRung = 9218868437227405312 := by simp [Format.infRung, Format.binade, double]

theorem read_bound {w T : Nat} (hT : w ≤ 4503599627370496 * (T + 2)) (hT2 : T ≤ 1290) : ∃ m p, double.read w = .number false m p ∧ m < 9007199254740992 ∧ -1074 ≤ p ∧ p ≤ -1072 + (T : Int) := by
  have hq : w / 4503599627370496 ≤ T + 2 := Nat.div_le_of_le_mul hT
  have h : w ≤ 4503599627370496 * 1292 := Nat.le_trans hT (Nat.mul_le_mul_left _ (by omega))
  have hlt : w < 9223372036854775808 := Nat.lt_of_le_of_lt h (by decide)
  have hlt2 : w < 9218868437227405312 := Nat.lt_of_le_of_lt h (by decide)
  have h1 : w / 9223372036854775808 = 0 := Nat.div_eq_of_lt hlt
  have h2 : w % 9223372036854775808 = w := Nat.mod_eq_of_lt hlt
  have hneg : (w / 9223372036854775808 % 2 == 1) = false := by rw [h1]; rfl
  unfold Format.read
  simp only [lp, bi, sw, ir, h2, hneg]
  by_cases hb : w < 4503599627370496
  · simp only [hb, if_true]
    exact ⟨w, -1074, rfl, Nat.lt_trans hb (by decide), by decide, by clear h1 h2 hneg hb h hlt hlt2 hq hT; omega⟩
  · have hc := hlt2
    simp only [hb, hc, if_true, if_false]
    refine ⟨4503599627370496 + w % 4503599627370496, -1074 + ((w / 4503599627370496 - 1 : Nat) : Int), rfl, ?_, ?_, ?_⟩
    · have h9 := Nat.mod_lt w (show 0 < 4503599627370496 by decide)
      clear h1 h2 hneg hc hb h hlt hlt2 hT hq
      generalize w % 4503599627370496 = r at h9 ⊢
      omega
    · clear h1 h2 hneg hc hb h hlt hlt2 hT hq
      generalize w / 4503599627370496 - 1 = q
      omega
    · clear h1 h2 hneg hc hb h hlt hlt2 hT
      generalize w / 4503599627370496 = q at hq ⊢
      omega

theorem rootFrom_le (n : Nat) : ∀ (todo root : Nat), root * root ≤ n → Datum.rootFrom n todo root * Datum.rootFrom n todo root ≤ n
  | 0, root, h => h
  | todo + 1, root, h => by
    unfold Datum.rootFrom
    by_cases h' : (root + 1 <<< todo) * (root + 1 <<< todo) ≤ n
    · simp only [h', if_true]; exact rootFrom_le n todo _ h'
    · simp only [h', if_false]; exact rootFrom_le n todo _ h

theorem sqrt_int {n : Int} (h0 : 0 < n) (h1 : n ≤ 9223372036854775807) :
    ∃ r m, FloatKind.f64.format.sqrt (FloatKind.f64.nearest n) = some r ∧ (FloatKind.f64.decode r).toInt .zero = some m ∧ 0 ≤ m ∧ m ≤ 9223372036854775807 := by
  have hn0 : n.natAbs ≠ 0 := by omega
  have hlog : n.natAbs.log2 < 63 := log2_lt_of (by
    have : (2 : Nat) ^ 63 = 9223372036854775808 := by decide
    omega) hn0
  have eN : FloatKind.f64.nearest n = double.nearest false n.natAbs 0 := by
    have : decide (n < 0) = false := by simp; omega
    simp only [FloatKind.nearest, FloatKind.encode, FloatKind.format, Format.write, this]
  obtain ⟨w, hw, hwb⟩ := nearest_bound (mag := n.natAbs) (place := 0) hn0 (by omega) (by omega)
  obtain ⟨m, p, hr, hm, hp0, hp⟩ := read_bound hwb (by clear hwb; omega)
  clear hwb
  rw [eN, hw]
  have hpb : p ≤ 13 := by clear hm; omega
  have fin : ∀ (mag : Nat) (place : Int), mag ≠ 0 → -1000 ≤ place + mag.log2 → place + mag.log2 ≤ 59 →
      ∃ r k, double.write (.number false mag place) = r ∧ (double.read r).toInt .zero = some k ∧ 0 ≤ k ∧ k ≤ 9223372036854775807 := by
    intro mag place g0 g1 g2
    obtain ⟨w2, hw2, hwb2⟩ := nearest_bound (mag := mag) (place := place) g0 g1 (by omega)
    obtain ⟨m3, p3, hr3, hm3, hp3, hp3'⟩ := read_bound hwb2 (by clear hwb2; omega)
    clear hwb2
    have hp9 : p3 ≤ 9 := by omega
    refine ⟨w2, _, hw2, by rw [hr3]; rfl, ?_⟩
    have hcut : Toward.zero.cut false (m3 <<< p3.toNat) (-p3).toNat ≤ m3 <<< p3.toNat := by
      unfold Toward.cut
      simp only [Bool.toNat_false, Nat.add_zero]
      exact Nat.div_le_self _ _
    have hsh : m3 <<< p3.toNat ≤ m3 * 512 := by
      rw [Nat.shiftLeft_eq]
      refine Nat.mul_le_mul_left _ ?_
      calc 2 ^ p3.toNat ≤ 2 ^ 9 := Nat.pow_le_pow_right (by omega) (by omega)
        _ = 512 := by decide
    simp only [signed, Bool.false_eq_true, if_false, Nat.shiftLeft_zero]
    omega
  show ∃ r k, (((double.read w).root (double.fractionBits + 2)).map double.write) = some r ∧ (double.read r).toInt .zero = some k ∧ 0 ≤ k ∧ k ≤ 9223372036854775807
  rw [hr]
  simp only [Datum.root]
  by_cases hm0 : m = 0
  · subst hm0
    rw [if_pos rfl]
    exact ⟨0, 0, by simp [Format.write, Format.nearest, Format.word], by decide, by decide, by decide⟩
  · rw [if_neg hm0]
    simp only [Bool.false_eq_true, if_false]
    have e2 : double.fractionBits = 52 := rfl
    rw [e2]
    have hml : m.log2 < 53 := log2_lt_of (by
      have : (2 : Nat) ^ 53 = 9007199254740992 := by decide
      omega) hm0
    generalize hmore : 2 * (52 + 2) - m.log2 + ((p - (2 * (52 + 2) - m.log2 : Nat)) % 2).toNat = more
    have hmb : 56 ≤ more ∧ more ≤ 109 := by omega
    generalize hwh : Datum.rootFrom (m <<< more) ((m <<< more).log2 / 2 + 1) 0 = whole
    have hle : whole * whole ≤ m <<< more := by rw [← hwh]; exact rootFrom_le _ _ _ (by simp)
    have hbound : whole < 2 ^ 81 := by
      rw [Nat.shiftLeft_eq] at hle
      have h2 : m * 2 ^ more < 2 ^ 162 := by
        calc m * 2 ^ more < 2 ^ 53 * 2 ^ more := Nat.mul_lt_mul_of_pos_right (by
              have : (2 : Nat) ^ 53 = 9007199254740992 := by decide
              omega) (Nat.two_pow_pos _)
          _ = 2 ^ (53 + more) := by rw [← Nat.pow_add]
          _ ≤ 2 ^ 162 := Nat.pow_le_pow_right (by omega) (by omega)
      rcases Nat.lt_or_ge whole (2 ^ 81) with h | h
      · exact h
      · have : 2 ^ 81 * 2 ^ 81 ≤ whole * whole := Nat.mul_le_mul h h
        have e : (2 : Nat) ^ 81 * 2 ^ 81 = 2 ^ 162 := by rw [← Nat.pow_add]
        omega
    have hpos : m <<< more ≠ 0 := by
      rw [Nat.shiftLeft_eq]
      exact Nat.mul_ne_zero hm0 (by have := Nat.two_pow_pos more; omega)
    generalize hmag : 2 * whole + (whole * whole != m <<< more).toNat = mag2
    have hmag0 : mag2 ≠ 0 := by
      intro h
      rw [h] at hmag
      have hw0 : whole = 0 := by omega
      subst hw0
      have : (0 * 0 != m <<< more) = true := by simp; exact fun h => hpos h.symm
      rw [this] at hmag
      simp at hmag
    have hmag2 : mag2 < 2 ^ 83 := by
      have hb : (whole * whole != m <<< more).toNat ≤ 1 := Bool.toNat_le _
      have e : (2 : Nat) ^ 83 = 4 * 2 ^ 81 := by decide
      omega
    have hl2 : mag2.log2 < 83 := log2_lt_of hmag2 hmag0
    obtain ⟨r, k, g1, g2, g3, g4⟩ := fin mag2 ((p - more) / 2 - 1) hmag0 (by omega) (by omega)
    refine ⟨r, k, ?_, g2, g3, g4⟩
    simp only [Option.map_some]
    exact congrArg some g1
end Go.AM

set_option maxRecDepth 20000
namespace Go.AM

theorem isNaN_ev (x : Int) : Ev E 36 [vi x] ⟨.bool false, []⟩ := by
  refine Ev.of_s' E_36 (X_36 _) rfl ?_
  (conv => whnf); repeat' ((first | intro g | refine st ?_ | (first | refine b1 ?_ ?_ | refine b2 ?_ ?_ | refine Br.mk ?_ ?_) <;> intro hc | exact rfl) <;> conv => whnf)
  all_goals simp

def cmpI (x y : Int) : Int := if x < y then -1 else if y < x then 1 else 0

theorem compare_ev (x y : Int) : Ev E 23 [vi x, vi y] ⟨vi (cmpI x y), []⟩ := by
  refine Ev.of_s' E_23 (X_23 _) rfl ?_
  (conv => whnf); repeat' ((first | intro g | refine CallS.mk _ (isNaN_ev x) ?_ | refine CallS.mk _ (isNaN_ev y) ?_ | refine st ?_ | (first | refine b1 ?_ ?_ | refine b2 ?_ ?_ | refine Br.mk ?_ ?_) <;> intro hc | exact rfl) <;> conv => whnf)
  all_goals simp [cmpI, *]
  all_goals omega

def orI (a b : Int) : Int := if a = 0 then b else a
theorem orI_ev (a b : Int) : Ev E 22 [.lit 1 [vi a, vi b]] ⟨vi (orI a b), []⟩ := by
  refine Ev.of_s' E_22 (X_22 _) rfl ?_
  (conv => whnf); repeat' ((first | intro g | refine st ?_ | (first | refine b1 ?_ ?_ | refine b2 ?_ ?_ | refine Br.mk ?_ ?_) <;> intro hc | exact rfl) <;> conv => whnf)
  refine LoopS.by (fun i : Nat => ⟨[(3, vi 0), (6, .lit 1 [vi a, vi b]), (7, vnat 2), (8, vnat i)], []⟩) (fun i => i ≤ 2 ∧ (1 ≤ i → a = 0) ∧ (2 ≤ i → b = 0)) (fun i => 2 - i) 0 ?_ ?_ ?_
  · (refine ⟨?_, ?_⟩ <;> repeat' (first | exact True.intro | refine ai ?_ | refine And.intro ?_ ?_))
  · simp
  rintro i ⟨hi, h1, h2⟩
  rcases (by omega : i = 0 ∨ i = 1 ∨ i = 2) with rfl | rfl | rfl
  · (conv => whnf); repeat' ((first | intro g | refine st ?_ | (first | refine b1 ?_ ?_ | refine b2 ?_ ?_ | refine Br.mk ?_ ?_) <;> intro hc | exact rfl) <;> conv => whnf)
    · simp [orI, hc]
    · refine NxtS.mk (1) (by first | omega | (dsimp only; omega)) ?_ (by (refine ⟨?_, ?_⟩ <;> repeat' (first | exact True.intro | refine ai ?_ | refine And.intro ?_ ?_)))
      exact ⟨by omega, fun _ => by simpa using hc, fun h => by omega⟩
  · have ha := h1 (by omega)
    (conv => whnf); repeat' ((first | intro g | refine st ?_ | (first | refine b1 ?_ ?_ | refine b2 ?_ ?_ | refine Br.mk ?_ ?_) <;> intro hc | exact rfl) <;> conv => whnf)
    · simp [orI, ha]
    · refine NxtS.mk (2) (by first | omega | (dsimp only; omega)) ?_ (by (refine ⟨?_, ?_⟩ <;> repeat' (first | exact True.intro | refine ai ?_ | refine And.intro ?_ ?_)))
      exact ⟨by omega, fun _ => ha, fun _ => by simpa using hc⟩
  · have ha := h1 (by omega)
    have hb := h2 (by omega)
    (conv => whnf); repeat' ((first | intro g | refine st ?_ | (first | refine b1 ?_ ?_ | refine b2 ?_ ?_ | refine Br.mk ?_ ?_) <;> intro hc | exact rfl) <;> conv => whnf)
    all_goals simp [orI, ha, hb]

/-! ### the square root -/
def IsSqrt (n s : Int) : Prop := 0 ≤ s ∧ s * s ≤ n ∧ n < (s + 1) * (s + 1)
theorem sq_mono {a b : Int} (h0 : 0 ≤ a) (h : a ≤ b) : a * a ≤ b * b := Int.mul_le_mul h h h0 (by omega)
theorem IsSqrt.uniq {n s t : Int} (h : IsSqrt n s) (k : IsSqrt n t) : s = t := by
  obtain ⟨h1, h2, h3⟩ := h
  obtain ⟨k1, k2, k3⟩ := k
  rcases Int.lt_trichotomy s t with hl | hl | hl
  · have := sq_mono (a := s + 1) (b := t) (by omega) (by omega); omega
  · exact hl
  · have := sq_mono (a := t + 1) (b := s) (by omega) (by omega); omega
open Classical in
noncomputable def sqrtI (n : Int) : Int := if h : ∃ s, IsSqrt n s then h.choose else 0
theorem sqrtI_of {n s : Int} (h : IsSqrt n s) : sqrtI n = s := by
  have hex : ∃ s, IsSqrt n s := ⟨s, h⟩
  unfold sqrtI; rw [dif_pos hex]; exact hex.choose_spec.uniq h
theorem sqrtI_neg {n : Int} (h : n ≤ 0) : sqrtI n = 0 := by
  by_cases hz : n = 0
  · subst hz; exact sqrtI_of ⟨by omega, by omega, by omega⟩
  · unfold sqrtI; rw [dif_neg]
    rintro ⟨s, h1, h2, h3⟩
    have := Int.mul_nonneg h1 h1
    omega

theorem mathSqrt_ev {b r : Nat} (h : FloatKind.f64.format.sqrt b = some r) : Ev E 41 [.float b] ⟨.float r, []⟩ := by
  have hsq : Ev E 52 [.float b] ⟨.float r, []⟩ := Ev.ext (by rw [X_52]; simp [sqrtV, h])
  refine Ev.of_s' E_41 (X_41 _) rfl ?_
  (conv => whnf); repeat' ((first | intro g | refine CallS.mk _ (hsq) ?_ | refine st ?_ | (first | refine b1 ?_ ?_ | refine b2 ?_ ?_ | refine Br.mk ?_ ?_) <;> intro hc | exact rfl) <;> conv => whnf)

theorem sqrt_ev {n : Int} (h1 : n ≤ 9223372036854775807) : Ev E 27 [vi n] ⟨vi (sqrtI n), []⟩ := by
  by_cases h0 : 0 < n
  case neg =>
    rw [sqrtI_neg (by omega)]
    refine Ev.of_s' E_27 (X_27 _) rfl ?_
    (conv => whnf); repeat' ((first | intro g | refine st ?_ | (first | refine b1 ?_ ?_ | refine b2 ?_ ?_ | refine Br.mk ?_ ?_) <;> intro hc | exact rfl) <;> conv => whnf)
    all_goals trivial
  obtain ⟨r, m, hr, hm, hm0, hm1⟩ := sqrt_int h0 h1
  have e1 : IntKind.i64.min ≤ m := by simp [IntKind.min, IntKind.signed, IntKind.bits]; omega
  have e2 : m ≤ IntKind.i64.max := by simp [IntKind.max, IntKind.signed, IntKind.bits]; omega
  refine Ev.of_s' E_27 (X_27 _) rfl ?_
  (conv => whnf); repeat' ((first | intro g | refine Wit.mk _ ((⟨hm, e1, e2⟩ : _ ∧ _ ∧ _)) ?_ | refine CallS.mk _ (mathSqrt_ev hr) ?_ | refine st ?_ | (first | refine b1 ?_ ?_ | refine b2 ?_ ?_ | refine Br.mk ?_ ?_) <;> intro hc | exact rfl) <;> conv => whnf)
  generalize hs0 : (if 3037000499 < m then (3037000499 : Int) else m) = s0
  have hb0 : 0 ≤ s0 ∧ s0 ≤ 3037000499 := by split at hs0 <;> omega
  refine LoopS.by (fun s : Int => ⟨[(0, vi n), (3, vi s)], []⟩) (fun s => 0 ≤ s ∧ s ≤ 3037000499) (fun s => s.toNat) s0 ?_ hb0 ?_
  · (refine ⟨?_, ?_⟩ <;> repeat' (first | exact True.intro | refine ai ?_ | refine And.intro ?_ ?_))
  rintro s ⟨hs1, hs2⟩
  have hsq := sq_mono hs1 hs2
  have hsq0 : 0 ≤ s * s := Int.mul_nonneg hs1 hs1
  have hw : IntKind.i64.wrap (s * s) = s * s := wrap64 (by omega) (by omega)
  (conv => whnf); repeat' ((first | intro g | refine st ?_ | (first | refine b1 ?_ ?_ | refine b2 ?_ ?_ | refine Br.mk ?_ ?_) <;> intro hc | exact rfl) <;> conv => whnf)
  · rw [hw] at hc
    have : 0 < s := by
      rcases Int.lt_or_le 0 s with h | h
      · exact h
      · have : s = 0 := by omega
        subst this; omega
    refine NxtS.mk (s - 1) (by first | omega | (dsimp only; omega)) ?_ (by (refine ⟨?_, ?_⟩ <;> repeat' (first | exact True.intro | refine ai ?_ | refine And.intro ?_ ?_)))
    exact ⟨by omega, by omega⟩
  rw [hw] at hc
  refine LoopS.by (fun s : Int => ⟨[(0, vi n), (3, vi s)], []⟩) (fun s => 0 ≤ s ∧ s ≤ 3037000499 ∧ s * s ≤ n) (fun s => (3037000499 - s).toNat) s ?_ ⟨hs1, hs2, by omega⟩ ?_
  · (refine ⟨?_, ?_⟩ <;> repeat' (first | exact True.intro | refine ai ?_ | refine And.intro ?_ ?_))
  clear hw hsq hsq0 hc hs1 hs2 s
  rintro s ⟨hs1, hs2, hle⟩
  by_cases hlt : s < 3037000499
  · have hsq := sq_mono (a := s + 1) (b := 3037000499) (by omega) (by omega)
    have hsq0 : 0 ≤ (s + 1) * (s + 1) := Int.mul_nonneg (by omega) (by omega)
    have hw1 : IntKind.i64.wrap (s + 1) = s + 1 := wrap64 (by omega) (by omega)
    have hw : IntKind.i64.wrap ((s + 1) * (s + 1)) = (s + 1) * (s + 1) := wrap64 (by omega) (by omega)
    (conv => whnf); repeat' ((first | intro g | refine st ?_ | (first | refine b1 ?_ ?_ | refine b2 ?_ ?_ | refine Br.mk ?_ ?_) <;> intro hc | exact rfl) <;> conv => whnf)
    · rw [hw1, hw] at hc
      refine NxtS.mk (s + 1) (by first | omega | (dsimp only; omega)) ?_ (by (refine ⟨?_, ?_⟩ <;> repeat' (first | exact True.intro | refine ai ?_ | refine And.intro ?_ ?_)))
      exact ⟨by omega, by omega, hc⟩
    · rw [hw1, hw] at hc
      rw [sqrtI_of ⟨hs1, hle, by omega⟩]
  · (conv => whnf); repeat' ((first | intro g | refine st ?_ | (first | refine b1 ?_ ?_ | refine b2 ?_ ?_ | refine Br.mk ?_ ?_) <;> intro hc | exact rfl) <;> conv => whnf)
    have := sq_mono (a := 3037000500) (b := s + 1) (by omega) (by omega)
    rw [sqrtI_of ⟨hs1, hle, by omega⟩]

/-! the reference's root, bit by bit -/
theorem rsqrt_ev {n : Int} (hn : n ≤ 9223372036854775807) : Ev E 127 [vi n] ⟨vi (sqrtI n), []⟩ := by
  refine Ev.of_s' E_127 (X_127 _) rfl ?_
  (conv => whnf); repeat' ((first | intro g | refine st ?_ | (first | refine b1 ?_ ?_ | refine b2 ?_ ?_ | refine Br.mk ?_ ?_) <;> intro hc | exact rfl) <;> conv => whnf)
  refine LoopS.by (fun (p : Nat × Int) => ⟨[(0, vi n), (3, vi p.2), (4, vi ((p.1 : Int) - 1))], []⟩)
    (fun p => p.1 ≤ 32 ∧ 0 ≤ p.2 ∧ (p.2 * p.2 ≤ n ∨ p.2 = 0) ∧ p.2 ≤ 3037000499 ∧ (n < (p.2 + 2 ^ p.1) * (p.2 + 2 ^ p.1) ∨ 3037000500 ≤ p.2 + 2 ^ p.1)) (fun p => p.1) (32, 0) ?_ ?_ ?_
  · (refine ⟨?_, ?_⟩ <;> repeat' (first | exact True.intro | refine ai ?_ | refine And.intro ?_ ?_))
  · simp
  rintro ⟨k, s⟩ ⟨h1, h2, h3, h4, h5⟩
  dsimp only at h1 h2 h3 h4 h5
  cases k with
  | zero =>
    (conv => whnf); repeat' ((first | intro g | refine st ?_ | (first | refine b1 ?_ ?_ | refine b2 ?_ ?_ | refine Br.mk ?_ ?_) <;> intro hc | exact rfl) <;> conv => whnf)
    show (⟨vi s, []⟩ : Res) = _
    congr 2
    rw [show (2 : Int) ^ 0 = 1 from rfl] at h5
    by_cases hneg : n ≤ 0
    · rw [sqrtI_neg hneg]
      rcases h3 with h3 | h3
      · by_cases hs : s = 0
        · exact hs
        · have := Int.mul_pos (show 0 < s by omega) (show 0 < s by omega); omega
      · exact h3
    · have h3' : s * s ≤ n := by
        rcases h3 with h3 | h3
        · exact h3
        · subst h3; omega
      refine (sqrtI_of ⟨h2, h3', ?_⟩).symm
      rcases h5 with h5 | h5
      · exact h5
      · have hs : s = 3037000499 := by omega
        rw [hs, show ((3037000499 : Int) + 1) * (3037000499 + 1) = 9223372037000250000 from rfl]
        omega
  | succ j =>
    have hj : min (((j + 1 : Nat) : Int) - 1).toNat IntKind.i64.bits = j := by
      have : IntKind.i64.bits = 64 := rfl
      rw [this]; omega
    have hpos : (1 : Int) ≤ 2 ^ j := by
      have := Nat.one_le_two_pow (n := j)
      exact_mod_cast this
    have hle : (2 : Int) ^ j ≤ 2147483648 := by
      have h31 : (2 : Nat) ^ j ≤ 2147483648 := Nat.le_trans (show (2 : Nat) ^ j ≤ 2 ^ 31 from Nat.pow_le_pow_right (by omega) (by omega)) (by decide)
      have h32 : ((2 ^ j : Nat) : Int) ≤ ((2147483648 : Nat) : Int) := Int.ofNat_le.2 h31
      rw [Int.natCast_pow] at h32
      exact h32
    have h2p : (2 : Int) ^ (j + 1) = 2 * 2 ^ j := by rw [Int.pow_succ]; omega
    rw [h2p] at h5
    have hp : IntKind.i64.wrap (1 * 2 ^ min (((j + 1 : Nat) : Int) - 1).toNat IntKind.i64.bits) = 2 ^ j := by
      rw [hj, Int.one_mul]; exact wrap64 (by omega) (by omega)
    have hw : IntKind.i64.wrap (s + 2 ^ j) = s + 2 ^ j := wrap64 (by omega) (by omega)
    have hst : s + 2 ^ j + 2 ^ j = s + 2 * 2 ^ j := by omega
    have hsq : s + 2 ^ j ≤ 3037000499 → IntKind.i64.wrap ((s + 2 ^ j) * (s + 2 ^ j)) = (s + 2 ^ j) * (s + 2 ^ j) := fun h => by
      have := sq_mono (a := s + 2 ^ j) (b := 3037000499) (by omega) h
      have := Int.mul_nonneg (show 0 ≤ s + 2 ^ j by omega) (show 0 ≤ s + 2 ^ j by omega)
      exact wrap64 (by omega) (by omega)
    (conv => whnf); repeat' ((first | intro g | refine st ?_ | (first | refine b1 ?_ ?_ | refine b2 ?_ ?_ | refine Br.mk ?_ ?_) <;> intro hc | exact rfl) <;> conv => whnf)
    · rename_i hc2
      rw [hp, hw] at hc2
      rw [hp, hw, hsq hc2] at hc
      refine NxtS.mk (j, s + 2 ^ j) (by dsimp only; omega) ?_ ?_
      · exact ⟨by omega, by omega, .inl hc, hc2, by dsimp only; rw [hst]; exact h5⟩
      · have e1 : V.int .i64 (IntKind.i64.wrap (s + IntKind.i64.wrap (1 * 2 ^ min (((j + 1 : Nat) : Int) - 1).toNat IntKind.i64.bits))) = vi (s + 2 ^ j) := by rw [hp, hw]
        (refine ⟨?_, ?_⟩ <;> repeat' (first | exact True.intro | refine And.intro (e1) ?_ | refine ai ?_ | refine And.intro ?_ ?_))
    · rename_i hc2
      rw [hp, hw] at hc2
      rw [hp, hw, hsq hc2] at hc
      refine NxtS.mk (j, s) (by dsimp only; omega) ?_ (by (refine ⟨?_, ?_⟩ <;> repeat' (first | exact True.intro | refine ai ?_ | refine And.intro ?_ ?_)))
      exact ⟨by omega, by omega, h3, h4, .inl (by dsimp only; omega)⟩
    · rw [hp, hw] at hc
      refine NxtS.mk (j, s) (by dsimp only; omega) ?_ (by (refine ⟨?_, ?_⟩ <;> repeat' (first | exact True.intro | refine ai ?_ | refine And.intro ?_ ?_)))
      exact ⟨by omega, by omega, h3, h4, .inr (by dsimp only; omega)⟩
end Go.AM

set_option maxRecDepth 20000
namespace Go.AM

def sqV (ax ay bx b_y : Int) : Int := w64 (w64 (w64 (ax - bx) * w64 (ax - bx)) + w64 (w64 (ay - b_y) * w64 (ay - b_y)))
theorem wrap_le (n : Int) : IntKind.i64.wrap n ≤ 9223372036854775807 := by
  simp [IntKind.wrap, IntKind.bits, IntKind.signed]
  split <;> omega
theorem sqV_le {a b c d : Int} : sqV a b c d ≤ 9223372036854775807 := wrap_le _

theorem sub_ev (a b : Pt) : Ev E 37 [a.v, b.v] ⟨(Pt.mk (w64 (a.x - b.x)) (w64 (a.y - b.y))).v, []⟩ := by
  refine Ev.of_s' E_37 (X_37 _) rfl ?_
  (conv => whnf); repeat' ((first | intro g | refine st ?_ | (first | refine b1 ?_ ?_ | refine b2 ?_ ?_ | refine Br.mk ?_ ?_) <;> intro hc | exact rfl) <;> conv => whnf)
theorem dot_ev (a b : Pt) : Ev E 38 [a.v, b.v] ⟨vi (w64 (w64 (a.x * b.x) + w64 (a.y * b.y))), []⟩ := by
  refine Ev.of_s' E_38 (X_38 _) rfl ?_
  (conv => whnf); repeat' ((first | intro g | refine st ?_ | (first | refine b1 ?_ ?_ | refine b2 ?_ ?_ | refine Br.mk ?_ ?_) <;> intro hc | exact rfl) <;> conv => whnf)
theorem square_ev (a b : Pt) : Ev E 24 [a.v, b.v] ⟨vi (sqV a.x a.y b.x b.y), []⟩ := by
  refine Ev.of_s' E_24 (X_24 _) rfl ?_
  (conv => whnf); repeat' ((first | intro g | refine CallS.mk _ (sub_ev a b) ?_ | refine CallS.mk _ (dot_ev _ _) ?_ | refine st ?_ | (first | refine b1 ?_ ?_ | refine b2 ?_ ?_ | refine Br.mk ?_ ?_) <;> intro hc | exact rfl) <;> conv => whnf)
theorem rsub_ev (a b : Pt) : Ev E 161 [a.v, b.v] ⟨(Pt.mk (w64 (a.x - b.x)) (w64 (a.y - b.y))).v, []⟩ := by
  refine Ev.of_s' E_161 (X_161 _) rfl ?_
  (conv => whnf); repeat' ((first | intro g | refine st ?_ | (first | refine b1 ?_ ?_ | refine b2 ?_ ?_ | refine Br.mk ?_ ?_) <;> intro hc | exact rfl) <;> conv => whnf)
theorem rdot_ev (a b : Pt) : Ev E 166 [a.v, b.v] ⟨vi (w64 (w64 (a.x * b.x) + w64 (a.y * b.y))), []⟩ := by
  refine Ev.of_s' E_166 (X_166 _) rfl ?_
  (conv => whnf); repeat' ((first | intro g | refine st ?_ | (first | refine b1 ?_ ?_ | refine b2 ?_ ?_ | refine Br.mk ?_ ?_) <;> intro hc | exact rfl) <;> conv => whnf)
theorem rsquare_ev (a b : Pt) : Ev E 128 [a.v, b.v] ⟨vi (sqV a.x a.y b.x b.y), []⟩ := by
  refine Ev.of_s' E_128 (X_128 _) rfl ?_
  (conv => whnf); repeat' ((first | intro g | refine CallS.mk _ (rsub_ev a b) ?_ | refine CallS.mk _ (rdot_ev _ _) ?_ | refine st ?_ | (first | refine b1 ?_ ?_ | refine b2 ?_ ?_ | refine Br.mk ?_ ?_) <;> intro hc | exact rfl) <;> conv => whnf)

def Place.at_ (p : Place) : Pt := ⟨p.x, p.y⟩
def sqP (a b : Place) : Int := sqV a.x a.y b.x b.y
noncomputable def costPP (a b : Place) : Int := w64 ((sqrtI (sqP a b)).tdiv 4)
noncomputable def costP (ps : List Place) (place into : Int) : Int :=
  match ps[(findP ps place).toNat]?, ps[(findP ps into).toNat]? with
  | some a, some b => if 0 ≤ findP ps place ∧ 0 ≤ findP ps into then costPP a b else 0
  | _, _ => 0

section
variable {m : GMap} (hlen : m.places.length < 1000000)
include hlen
theorem cost_ev (place into : Int) : Ev E 12 [m.v, vi place, vi into] ⟨vi (costP m.places place into), []⟩ := by
  have h := both_ev hlen place into
  rcases find_cases m.places place with h1 | ⟨i, a, h1, ha, hia⟩
  · have r : costP m.places place into = 0 := by simp [costP, h1]; split <;> rfl
    rw [h1] at h; rw [r]
    refine Ev.of_s' E_12 (X_12 _) rfl ?_
    (conv => whnf); repeat' ((first | intro g | refine CallS.mk _ (h) ?_ | refine st ?_ | (first | refine b1 ?_ ?_ | refine b2 ?_ ?_ | refine Br.mk ?_ ?_) <;> intro hc | exact rfl) <;> conv => whnf)
    all_goals simp_all
  rcases find_cases m.places into with h2 | ⟨k, b, h2, hb, hkb⟩
  · have r : costP m.places place into = 0 := by simp [costP, h2]; split <;> rfl
    rw [h2] at h; rw [r]
    refine Ev.of_s' E_12 (X_12 _) rfl ?_
    (conv => whnf); repeat' ((first | intro g | refine CallS.mk _ (h) ?_ | refine st ?_ | (first | refine b1 ?_ ?_ | refine b2 ?_ ?_ | refine Br.mk ?_ ?_) <;> intro hc | exact rfl) <;> conv => whnf)
    all_goals simp_all
  have r : costP m.places place into = costPP a b := by simp [costP, h1, h2, ha, hb]
  rw [h1, h2] at h
  rw [r]
  refine Ev.of_s' E_12 (X_12 _) rfl ?_
  (conv => whnf); repeat' ((first | intro g | refine Wit.mk _ (map_get ha rfl) ?_ | refine Wit.mk _ (map_get hb rfl) ?_ | refine CallS.mk _ (h) ?_ | refine CallS.mk _ (square_ev a.at_ b.at_) ?_ | refine CallS.mk _ (sqrt_ev (wrap_le _)) ?_ | refine st ?_ | (first | refine b1 ?_ ?_ | refine b2 ?_ ?_ | refine Br.mk ?_ ?_) <;> intro hc | exact rfl) <;> conv => whnf)
  all_goals simp_all
theorem rcost_ev (place into : Int) : Ev E 90 [m.v, vi place, vi into] ⟨vi (costP m.places place into), []⟩ := by
  have h := rplace_ev hlen
  have h5 := h place
  have h6 := h into
  rcases find_cases m.places place with h1 | ⟨i, a, h1, ha, hia⟩
  · have r : costP m.places place into = 0 := by simp [costP, h1]; split <;> rfl
    rw [h1] at h5; rw [r]
    refine Ev.of_s' E_90 (X_90 _) rfl ?_
    (conv => whnf); repeat' ((first | intro g | refine CallS.mk _ (h5) ?_ | refine CallS.mk _ (h6) ?_ | refine st ?_ | (first | refine b1 ?_ ?_ | refine b2 ?_ ?_ | refine Br.mk ?_ ?_) <;> intro hc | exact rfl) <;> conv => whnf)
    all_goals simp_all
  rcases find_cases m.places into with h2 | ⟨k, b, h2, hb, hkb⟩
  · have r : costP m.places place into = 0 := by simp [costP, h2]; split <;> rfl
    rw [h1] at h5; rw [h2] at h6; rw [r]
    refine Ev.of_s' E_90 (X_90 _) rfl ?_
    (conv => whnf); repeat' ((first | intro g | refine CallS.mk _ (h5) ?_ | refine CallS.mk _ (h6) ?_ | refine st ?_ | (first | refine b1 ?_ ?_ | refine b2 ?_ ?_ | refine Br.mk ?_ ?_) <;> intro hc | exact rfl) <;> conv => whnf)
    all_goals simp_all
  have r : costP m.places place into = costPP a b := by simp [costP, h1, h2, ha, hb]
  rw [h1] at h5; rw [h2] at h6
  rw [r]
  refine Ev.of_s' E_90 (X_90 _) rfl ?_
  (conv => whnf); repeat' ((first | intro g | refine Wit.mk _ (map_get ha rfl) ?_ | refine Wit.mk _ (map_get hb rfl) ?_ | refine CallS.mk _ (h5) ?_ | refine CallS.mk _ (h6) ?_ | refine CallS.mk _ (rsquare_ev a.at_ b.at_) ?_ | refine CallS.mk _ (rsqrt_ev (wrap_le _)) ?_ | refine st ?_ | (first | refine b1 ?_ ?_ | refine b2 ?_ ?_ | refine Br.mk ?_ ?_) <;> intro hc | exact rfl) <;> conv => whnf)
  all_goals simp_all
end

/-- the closure that compares two places by their distance from a third one -/
def cmpFrom (p a b : Place) : Int := orI (cmpI (sqP p a) (sqP p b)) (cmpI a.id b.id)
theorem cmpFrom_ev (p a b : Place) : Ev E 21 [a.v, b.v, .eptr p.v 0] ⟨vi (cmpFrom p a b), []⟩ := by
  refine Ev.of_s' E_21 (X_21 _) rfl ?_
  (conv => whnf); repeat' ((first | intro g | refine CallS.mk _ (square_ev p.at_ a.at_) ?_ | refine CallS.mk _ (square_ev p.at_ b.at_) ?_ | refine CallS.mk _ (compare_ev _ _) ?_ | refine CallS.mk _ (orI_ev _ _) ?_ | refine st ?_ | (first | refine b1 ?_ ?_ | refine b2 ?_ ?_ | refine Br.mk ?_ ?_) <;> intro hc | exact rfl) <;> conv => whnf)

/-- the least element, the first of such -/
def minF {α : Type} (c : α → α → Int) (l : List α) (x : α) : α := l.foldl (fun m y => if c y m < 0 then y else m) x

theorem minFunc_ev {l : List Place} {x0 : Place} (hlen : l.length < 1000000) {g' : Nat} {caps : List V} (hc : V.arePure caps = true) (hm : modesOf E g' = []) {c : Place → Place → Int}
    (hp : ∀ a b, Ev E g' (a.v :: b.v :: caps) ⟨vi (c a b), []⟩) : Ev E 35 [.lit 7 ((x0 :: l).map Place.v), .fn g' caps] ⟨(minF c l x0).v, []⟩ := by
  refine Ev.of_s' E_35 (X_35 _) rfl ?_
  (conv => whnf); repeat' ((first | intro g | refine st ?_ | (first | refine b1 ?_ ?_ | refine b2 ?_ ?_ | refine Br.mk ?_ ?_) <;> intro hc | exact rfl) <;> conv => whnf)
  rename_i g2
  refine LoopS.by (fun (p : Nat × Place) => ⟨[(0, .lit 7 ((x0 :: l).map Place.v)), (1, .fn g' caps), (4, .ptr 80 g2 0 0), (5, .ptr 96 g 0 0), (6, vnat (p.1 + 1))],
      [(96, ⟨g, 7, false, false, some [p.2.v]⟩), (80, ⟨g2, 7, false, false, some [(Place.mk 0 0 0 [] [] 0 0).v]⟩)]⟩)
    (fun p => p.1 ≤ l.length ∧ p.2 = minF c (l.take p.1) x0) (fun p => l.length - p.1) (0, x0) ?_ ?_ ?_
  · (refine ⟨?_, ?_⟩ <;> repeat' (first | exact True.intro | refine ai ?_ | refine And.intro ?_ ?_))
  · simp [minF]
  rintro ⟨i, y⟩ ⟨hi, hy⟩
  dsimp only at hi hy
  (conv => whnf); repeat' ((first | intro g | refine Wit.mk _ (map_get (l := x0 :: l) (get_lt (i := i + 1) (by simp only [List.length_cons]; omega)) rfl) ?_ | refine sAct_fn (by assumption) (by first | assumption | rfl | (simp only [V.arePure, V.isPure, Bool.and_self, Bool.true_and, Bool.and_true, *])) (hp _ _) rfl ?_ | refine st ?_ | (first | refine b1 ?_ ?_ | refine b2 ?_ ?_ | refine Br.mk ?_ ?_) <;> intro hc | exact rfl) <;> conv => whnf)
  · have e : (x0 :: l)[i + 1]'(by simp only [List.length_cons]; omega) = l[i]'(by omega) := rfl
    refine NxtS.mk (i + 1, l[i]'(by omega)) (by dsimp only; omega) ⟨by dsimp only; omega, ?_⟩ (by (refine ⟨?_, ?_⟩ <;> repeat' (first | exact True.intro | refine ai ?_ | refine And.intro ?_ ?_)))
    have : i < l.length := by omega
    rw [List.take_succ_eq_append_getElem this, minF, List.foldl_append, List.foldl_cons, List.foldl_nil]
    rw [e, hy] at hc
    exact (if_pos hc).symm
  · have e : (x0 :: l)[i + 1]'(by simp only [List.length_cons]; omega) = l[i]'(by omega) := rfl
    refine NxtS.mk (i + 1, y) (by dsimp only; omega) ⟨by dsimp only; omega, ?_⟩ (by (refine ⟨?_, ?_⟩ <;> repeat' (first | exact True.intro | refine ai ?_ | refine And.intro ?_ ?_)))
    have : i < l.length := by omega
    rw [List.take_succ_eq_append_getElem this, minF, List.foldl_append, List.foldl_cons, List.foldl_nil]
    rw [e, hy] at hc
    rw [hy]
    exact (if_neg hc).symm
  · obtain rfl : i = l.length := by omega
    rw [List.take_length] at hy
    subst hy; rfl

theorem least_nil (p : Place) : Ev E 20 [.lit 7 [], .fn 21 [.eptr p.v 0]] ⟨.tuple [(Place.mk 0 0 0 [] [] 0 0).v, .bool false], []⟩ := by
  refine Ev.of_s' E_20 (X_20 _) rfl ?_
  (conv => whnf); repeat' ((first | intro g | refine st ?_ | (first | refine b1 ?_ ?_ | refine b2 ?_ ?_ | refine Br.mk ?_ ?_) <;> intro hc | exact rfl) <;> conv => whnf)
theorem least_ev (p : Place) {l : List Place} {x0 : Place} (hlen : l.length < 1000000) : Ev E 20 [.lit 7 ((x0 :: l).map Place.v), .fn 21 [.eptr p.v 0]] ⟨.tuple [(minF (cmpFrom p) l x0).v, .bool true], []⟩ := by
  have h := minFunc_ev hlen (g' := 21) (caps := [.eptr p.v 0]) rfl rfl (fun a b => cmpFrom_ev p a b) (x0 := x0)
  refine Ev.of_s' E_20 (X_20 _) rfl ?_
  (conv => whnf); repeat' ((first | intro g | refine CallS.mk _ (h) ?_ | refine st ?_ | (first | refine b1 ?_ ?_ | refine b2 ?_ ?_ | refine Br.mk ?_ ?_) <;> intro hc | exact rfl) <;> conv => whnf)
end Go.AM

namespace Go.AM

structure CmpOk {α : Type} (c : α → α → Int) : Prop where
  tr : ∀ a b d, ¬ c b a < 0 → ¬ c d b < 0 → ¬ c d a < 0
  as : ∀ a b, c a b < 0 → ¬ c b a < 0
def NotAfter {α : Type} (c : α → α → Int) (a b : α) : Prop := ¬ c b a < 0

/-- an element on its way down -/
structure Sift {α : Type} (c : α → α → Int) (l0 : List α) (i j : Nat) (L pre : List α) (x : α) (mid post : List α) : Prop where
  perm : L.Perm l0
  eq : L = pre ++ x :: (mid ++ post)
  hj : pre.length = j
  hi : j + mid.length = i
  srt : (pre ++ mid).Pairwise (NotAfter c)
  up : ∀ y ∈ mid, c x y < 0

section
variable {α : Type} {c : α → α → Int} {l0 L pre mid post : List α} {x : α} {i j : Nat}

theorem Sift.start (hp : L.Perm l0) (hs : (L.take i).Pairwise (NotAfter c)) (hi : i < L.length) : Sift c l0 i i L (L.take i) L[i] [] (L.drop (i + 1)) where
  perm := hp
  eq := by
    simp only [List.nil_append]
    rw [List.getElem_cons_drop, List.take_append_drop]
  hj := by simp; omega
  hi := by simp
  srt := by simpa using hs
  up := by simp

theorem Sift.getx (h : Sift c l0 i j L pre x mid post) : L[j]? = some x := by
  rw [h.eq, List.getElem?_append_right (by have := h.hj; omega), h.hj]; simp
theorem Sift.gety {y : α} {pre' : List α} (h : Sift c l0 i (j + 1) L (pre' ++ [y]) x mid post) : L[j]? = some y := by
  have := h.hj
  simp at this
  rw [h.eq, List.append_assoc, List.getElem?_append_right (by omega), this]; simp
theorem Sift.snoc (h : Sift c l0 i (j + 1) L pre x mid post) : ∃ pre' y, pre = pre' ++ [y] := by
  have := h.hj
  rcases List.eq_nil_or_concat pre with rfl | ⟨l, b, rfl⟩
  · simp at this
  · exact ⟨l, b, by simp⟩
theorem Sift.step {y : α} {pre' : List α} (h : Sift c l0 i (j + 1) L (pre' ++ [y]) x mid post) (hc : c x y < 0) : Sift c l0 i j ((L.set (j + 1) y).set j x) pre' x (y :: mid) post where
  perm := by
    have hp := h.perm
    have e : (L.set (j + 1) y).set j x = pre' ++ x :: (y :: mid ++ post) := by
      have hj : pre'.length = j := by have := h.hj; simpa using this
      rw [h.eq]
      simp [List.set_append, hj]
    rw [e]
    refine List.Perm.trans ?_ hp
    rw [h.eq]
    simp only [List.append_assoc, List.cons_append, List.nil_append]
    exact List.Perm.append_left _ (List.Perm.swap _ _ _)
  eq := by
    have hj : pre'.length = j := by have := h.hj; simpa using this
    rw [h.eq]
    simp [List.set_append, hj]
  hj := by have := h.hj; simpa using this
  hi := by have := h.hi; simp; omega
  srt := by have := h.srt; simpa using this
  up := fun z hz => by
    rcases List.mem_cons.1 hz with rfl | hz
    · exact hc
    · exact h.up z hz
theorem Sift.len (h : Sift c l0 i j L pre x mid post) : L.length = l0.length := h.perm.length_eq
theorem Sift.stop (ho : CmpOk c) (h : Sift c l0 i j L pre x mid post) (hx : pre = [] ∨ ∃ pre' y, pre = pre' ++ [y] ∧ ¬ c x y < 0) : (L.take (i + 1)).Pairwise (NotAfter c) := by
  have e : L.take (i + 1) = pre ++ x :: mid := by
    have h1 := h.hj
    have h2 := h.hi
    rw [h.eq, ← List.cons_append, ← List.append_assoc, List.take_append_of_le_length (by simp; omega), List.take_of_length_le (by simp; omega)]
  rw [e, List.pairwise_append]
  have hs := List.pairwise_append.1 h.srt
  refine ⟨hs.1, ?_, fun a ha b hb => ?_⟩
  · rw [List.pairwise_cons]
    exact ⟨fun y hy => ho.as _ _ (h.up y hy), hs.2.1⟩
  · rcases List.mem_cons.1 hb with rfl | hb
    · rcases hx with rfl | ⟨pre', y, rfl, hy⟩
      · simp at ha
      · rcases List.mem_append.1 ha with ha' | ha'
        · have h3 := (List.pairwise_append.1 hs.1).2.2 a ha' y (by simp)
          exact ho.tr a y b h3 hy
        · have : a = y := by simpa using ha'
          subst this; exact hy
    · exact hs.2.2 a ha b hb
end

/-- sorted by a key that differs: there is only one such list -/
theorem sorted_unique {α : Type} {k : α → Int} : ∀ {l l' : List α}, l.Pairwise (fun a b => k a < k b) → l'.Pairwise (fun a b => k a < k b) → l.Perm l' → l = l'
  | [], l', _, _, hp => by simpa using hp.symm.eq_nil.symm
  | x :: l, l', h, h', hp => by
    cases l' with
    | nil => exact absurd hp.eq_nil (by simp)
    | cons y l' =>
      rw [List.pairwise_cons] at h h'
      have hx : x ∈ y :: l' := hp.mem_iff.1 (by simp)
      have hy : y ∈ x :: l := hp.mem_iff.2 (by simp)
      have : x = y := by
        rcases List.mem_cons.1 hx with e | hx
        · exact e
        · rcases List.mem_cons.1 hy with e | hy
          · exact e.symm
          · have := h'.1 x hx
            have := h.1 y hy
            omega
      subst this
      rw [sorted_unique h.2 h'.2 (List.Perm.cons_inv hp)]
end Go.AM

set_option maxRecDepth 20000
namespace Go.AM
section
variable {c : Event → Event → Int} {g : Nat}
set_option maxHeartbeats 1000000 in
theorem insSort_Event (ho : CmpOk c) (hm : modesOf E g = []) (hcmp : ∀ a b : Event, Ev E g [a.v, b.v] ⟨vi (c a b), []⟩) {l0 : List Event} (hlen : l0.length < 1000000) :
    ∃ l' : List Event, l'.Perm l0 ∧ l'.Pairwise (NotAfter c) ∧ Ev E 42 [.msl 5 (l0.map Event.v) 0 l0.length, vi 0, vnat l0.length, .fn g []] ⟨.tuple [], [(0, l'.map Event.v)]⟩ := by
  have key := Ev.of_s (R := fun r => ∃ l' : List Event, l'.Perm l0 ∧ l'.Pairwise (NotAfter c) ∧ r = ⟨.tuple [], [(0, l'.map Event.v)]⟩) E_42 (X_42 [.msl 5 (l0.map Event.v) 0 l0.length, vi 0, vnat l0.length, .fn g []]) rfl ?_
  · obtain ⟨res, h1, l', h2, h3, rfl⟩ := key
    exact ⟨l', h2, h3, h1⟩
  (conv => whnf); repeat' ((first | intro g | refine st ?_ | (first | refine b1 ?_ ?_ | refine b2 ?_ ?_ | refine Br.mk ?_ ?_) <;> intro hc | exact rfl) <;> conv => whnf)
  refine LoopS.by (fun ((i, L) : Nat × List Event) => ⟨[(0, .sl 0 0 0 l0.length), (1, vi 0), (2, vnat l0.length), (3, .fn g []), (8, vnat (i + 1))], [(0, ⟨0, 5, true, false, some (L.map Event.v)⟩)]⟩)
    (fun p => p.1 ≤ l0.length ∧ p.2.Perm l0 ∧ (p.2.take (p.1 + 1)).Pairwise (NotAfter c)) (fun p => l0.length - p.1) (0, l0) ?_ ?_ ?_
  · (refine ⟨?_, ?_⟩ <;> repeat' (first | exact True.intro | refine ai ?_ | refine And.intro ?_ ?_))
  · refine ⟨by simp, .refl _, ?_⟩
    cases l0 <;> simp
  rintro ⟨i, L⟩ ⟨h1, h2, h3⟩
  dsimp only at h1 h2 h3
  have hl := h2.length_eq
  (conv => whnf); repeat' ((first | intro g | refine Need.mk (⟨rfl, rfl, Event.pures _⟩) ?_ | refine st ?_ | (first | refine b1 ?_ ?_ | refine b2 ?_ ?_ | refine Br.mk ?_ ?_) <;> intro hc | exact rfl) <;> conv => whnf)
  · have hil : i + 1 < L.length := by omega
    refine LoopS.by (fun ((j, L) : Nat × List Event) => ⟨[(0, .sl 0 0 0 l0.length), (1, vi 0), (2, vnat l0.length), (3, .fn g []), (8, vnat (i + 1)), (9, vnat j)], [(0, ⟨0, 5, true, false, some (L.map Event.v)⟩)]⟩)
      (fun p => ∃ pre x mid post, Sift c l0 (i + 1) p.1 p.2 pre x mid post) (fun p => p.1) (i + 1, L) ?_ ⟨_, _, _, _, Sift.start h2 h3 hil⟩ ?_
    · (refine ⟨?_, ?_⟩ <;> repeat' (first | exact True.intro | refine ai ?_ | refine And.intro ?_ ?_))
    rintro ⟨j, L'⟩ ⟨pre, x, mid, post, hs⟩
    dsimp only at hs
    have hl' := hs.len
    have hlj := hs.hj
    have hli := hs.hi
    have hx := hs.getx
    cases j with
    | zero =>
      (conv => whnf); repeat' ((first | intro g | refine st ?_ | (first | refine b1 ?_ ?_ | refine b2 ?_ ?_ | refine Br.mk ?_ ?_) <;> intro hc | exact rfl) <;> conv => whnf)
      refine NxtS.mk (i + 1, L') (by dsimp only; omega) ⟨by dsimp only; omega, hs.perm, hs.stop ho (.inl (by simpa using hlj))⟩ (by (refine ⟨?_, ?_⟩ <;> repeat' (first | exact True.intro | refine ai ?_ | refine And.intro ?_ ?_)))
    | succ j =>
      obtain ⟨pre', y, rfl⟩ := hs.snoc
      have hy := hs.gety
      have hjw : IntKind.i64.wrap (((j + 1 : Nat) : Int) - 1) = (j : Int) := (wrap64 (by omega) (by omega)).trans (by omega)
      have hy2 : ((L'.map Event.v).set ((j + 1 : Nat) : Int).toNat y.v)[(IntKind.i64.wrap (((j + 1 : Nat) : Int) - 1)).toNat]? = some y.v := by
        rw [hjw]; simp [hy]
      (conv => whnf); repeat' ((first | intro g | refine Wit.mk _ (map_get hx rfl) ?_ | refine Wit.mk _ (map_get hy hjw) ?_ | refine Wit.mk _ (hy2) ?_ | refine sAct_fn (by assumption) (by first | assumption | rfl | (simp only [V.arePure, V.isPure, Bool.and_self, Bool.true_and, Bool.and_true, *])) (hcmp _ _) rfl ?_ | refine st ?_ | (first | refine b1 ?_ ?_ | refine b2 ?_ ?_ | refine Br.mk ?_ ?_) <;> intro hc | exact rfl) <;> conv => whnf)
      · refine NxtS.mk (j, (L'.set (j + 1) y).set j x) (by dsimp only; omega) ⟨_, _, _, _, hs.step hc⟩ ?_
        have e1 : V.int .i64 (IntKind.i64.wrap (((j + 1 : Nat) : Int) - 1)) = vnat j := by rw [hjw]
        have e2 : (⟨0, 5, true, false, some (((L'.map Event.v).set ((j + 1 : Nat) : Int).toNat y.v).set (IntKind.i64.wrap (((j + 1 : Nat) : Int) - 1)).toNat x.v)⟩ : Obj) = ⟨0, 5, true, false, some (((L'.set (j + 1) y).set j x).map Event.v)⟩ := by
          rw [hjw, List.map_set, List.map_set]; rfl
        (refine ⟨?_, ?_⟩ <;> repeat' (first | exact True.intro | refine And.intro (e1) ?_ | refine And.intro (e2) ?_ | refine ai ?_ | refine And.intro ?_ ?_))
      · refine NxtS.mk (i + 1, L') (by dsimp only; omega) ⟨by dsimp only; omega, hs.perm, hs.stop ho (.inr ⟨pre', y, rfl, hc⟩)⟩ (by (refine ⟨?_, ?_⟩ <;> repeat' (first | exact True.intro | refine ai ?_ | refine And.intro ?_ ?_)))
  · exact ⟨L, h2, by rw [List.take_of_length_le (by omega)] at h3; exact h3, rfl⟩
end

end Go.AM

set_option maxRecDepth 20000
namespace Go.AM
section
variable {c : Event → Event → Int} {g : Nat} {l : List Event}
theorem order2_Event (hm : modesOf E g = []) (hcmp : ∀ a b : Event, Ev E g [a.v, b.v] ⟨vi (c a b), []⟩) (hs : l.Pairwise (NotAfter c)) {a b s : Int} {i j : Nat} (ha : a = i) (hb : b = j) (hij : i < j) (hj : j < l.length) :
    Ev E 58 [.lit 5 (l.map Event.v), vi a, vi b, .mptr 1 [vi s] 0 0, .fn g []] ⟨.tuple [vi a, vi b], [(0, [vi s])]⟩ := by
  have hx := get_lt (l := l) (i := i) (by omega)
  have hy := get_lt (l := l) (i := j) (by omega)
  have hn : ¬ c (l[j]'hj) (l[i]'(by omega)) < 0 := by
    have := List.pairwise_iff_getElem.1 hs i j (by omega) hj hij
    exact this
  refine Ev.of_s' E_58 (X_58 _) rfl ?_
  (conv => whnf); repeat' ((first | intro g | refine Need.mk (⟨by omega, rfl⟩) ?_ | refine Wit.mk _ (map_get hx ha) ?_ | refine Wit.mk _ (map_get hy hb) ?_ | refine sAct_fn (by assumption) (by first | assumption | rfl | (simp only [V.arePure, V.isPure, Bool.and_self, Bool.true_and, Bool.and_true, *])) (hcmp _ _) rfl ?_ | refine st ?_ | (first | refine b1 ?_ ?_ | refine b2 ?_ ?_ | refine Br.mk ?_ ?_) <;> intro hc | exact rfl) <;> conv => whnf)
theorem median_Event (hm : modesOf E g = []) (hcmp : ∀ a b : Event, Ev E g [a.v, b.v] ⟨vi (c a b), []⟩) (hs : l.Pairwise (NotAfter c)) {a b d s : Int} {i j k : Nat} (ha : a = i) (hb : b = j) (hd : d = k) (hij : i < j) (hjk : j < k) (hk : k < l.length) :
    Ev E 57 [.lit 5 (l.map Event.v), vi a, vi b, vi d, .mptr 1 [vi s] 0 0, .fn g []] ⟨vi b, [(0, [vi s])]⟩ := by
  have h1 := order2_Event (s := s) hm hcmp hs ha hb hij (by omega)
  have h2 := order2_Event (s := s) hm hcmp hs hb hd hjk (by omega)
  refine Ev.of_s' E_57 (X_57 _) rfl ?_
  (conv => whnf); repeat' ((first | intro g | refine Need.mk (⟨rfl, rfl, rfl, rfl⟩) ?_ | refine Need.mk (⟨by omega, rfl⟩) ?_ | refine CallS.mk _ (h1) ?_ | refine CallS.mk _ (h2) ?_ | refine st ?_ | (first | refine b1 ?_ ?_ | refine b2 ?_ ?_ | refine Br.mk ?_ ?_) <;> intro hc | exact rfl) <;> conv => whnf)
theorem medianAdj_Event (hm : modesOf E g = []) (hcmp : ∀ a b : Event, Ev E g [a.v, b.v] ⟨vi (c a b), []⟩) (hs : l.Pairwise (NotAfter c)) {a s : Int} {i : Nat} (ha : a = i) (hi : 1 ≤ i) (hk : i + 1 < l.length) (hlen : l.length < 1000000) :
    Ev E 56 [.lit 5 (l.map Event.v), vi a, .mptr 1 [vi s] 0 0, .fn g []] ⟨vi a, [(0, [vi s])]⟩ := by
  have h1 := median_Event (s := s) (a := IntKind.i64.wrap (a - 1)) (b := a) (d := IntKind.i64.wrap (a + 1)) hm hcmp hs (i := i - 1) (j := i) (k := i + 1) ((wrap64 (by omega) (by omega)).trans (by omega)) ha ((wrap64 (by omega) (by omega)).trans (by omega)) (by omega) (by omega) hk
  refine Ev.of_s' E_56 (X_56 _) rfl ?_
  (conv => whnf); repeat' ((first | intro g | refine Need.mk (⟨rfl, rfl, rfl, rfl⟩) ?_ | refine Need.mk (⟨by omega, rfl⟩) ?_ | refine CallS.mk _ (h1) ?_ | refine st ?_ | (first | refine b1 ?_ ?_ | refine b2 ?_ ?_ | refine Br.mk ?_ ?_) <;> intro hc | exact rfl) <;> conv => whnf)

theorem choosePivot_Event (hm : modesOf E g = []) (hcmp : ∀ a b : Event, Ev E g [a.v, b.v] ⟨vi (c a b), []⟩) (hs : l.Pairwise (NotAfter c)) (h13 : 13 ≤ l.length) (hlen : l.length < 1000000) :
    ∃ p : Int, Ev E 45 [.lit 5 (l.map Event.v), vi 0, vnat l.length, .fn g []] ⟨.tuple [vi p, vi 1], []⟩ := by
  have key := Ev.of_s (R := fun r => ∃ p : Int, r = ⟨.tuple [vi p, vi 1], []⟩) E_45 (X_45 [.lit 5 (l.map Event.v), vi 0, vnat l.length, .fn g []]) rfl ?_
  · obtain ⟨res, h1, p, rfl⟩ := key
    exact ⟨p, h1⟩
  have e0 : IntKind.i64.wrap ((l.length : Int) - 0) = l.length := (wrap64 (by omega) (by omega)).trans (by omega)
  have e1 : (l.length : Int).tdiv 4 = ((l.length / 4 : Nat) : Int) := rfl
  generalize hq : l.length / 4 = q at e1
  have e2 : IntKind.i64.wrap ((q : Nat) : Int) = q := wrap64 (by omega) (by omega)
  have i1 : IntKind.i64.wrap (0 + IntKind.i64.wrap (IntKind.i64.wrap ((IntKind.i64.wrap ((l.length : Int) - 0)).tdiv 4) * 1)) = ((q : Nat) : Int) := by
    rw [e0, e1, e2]; simp only [Int.mul_one, Int.zero_add, e2]
  have i2 : IntKind.i64.wrap (0 + IntKind.i64.wrap (IntKind.i64.wrap ((IntKind.i64.wrap ((l.length : Int) - 0)).tdiv 4) * 2)) = ((2 * q : Nat) : Int) := by
    rw [e0, e1, e2, wrap64 (n := (q : Int) * 2) (by omega) (by omega)]
    exact (wrap64 (by omega) (by omega)).trans (by omega)
  have i3 : IntKind.i64.wrap (0 + IntKind.i64.wrap (IntKind.i64.wrap ((IntKind.i64.wrap ((l.length : Int) - 0)).tdiv 4) * 3)) = ((3 * q : Nat) : Int) := by
    rw [e0, e1, e2, wrap64 (n := (q : Int) * 3) (by omega) (by omega)]
    exact (wrap64 (by omega) (by omega)).trans (by omega)
  have m1 := medianAdj_Event (s := 0) hm hcmp hs i1 (by omega) (by omega) hlen
  have m2 := medianAdj_Event (s := 0) hm hcmp hs i2 (by omega) (by omega) hlen
  have m3 := medianAdj_Event (s := 0) hm hcmp hs i3 (by omega) (by omega) hlen
  have m4 := median_Event (s := 0) hm hcmp hs i1 i2 i3 (by omega) (by omega) (by omega)
  (conv => whnf); repeat' ((first | intro g | refine Need.mk (⟨rfl, rfl, rfl, rfl⟩) ?_ | refine Need.mk (⟨by omega, rfl⟩) ?_ | refine CallS.mk _ (m1) ?_ | refine CallS.mk _ (m2) ?_ | refine CallS.mk _ (m3) ?_ | refine CallS.mk _ (m4) ?_ | refine st ?_ | (first | refine b1 ?_ ?_ | refine b2 ?_ ?_ | refine Br.mk ?_ ?_) <;> intro hc | exact rfl) <;> conv => whnf)
  all_goals exact ⟨_, rfl⟩

theorem partIns_Event (hm : modesOf E g = []) (hcmp : ∀ a b : Event, Ev E g [a.v, b.v] ⟨vi (c a b), []⟩) (hs : l.Pairwise (NotAfter c)) (h13 : 13 ≤ l.length) (hlen : l.length < 1000000) :
    Ev E 47 [.msl 5 (l.map Event.v) 0 l.length, vi 0, vnat l.length, .fn g []] ⟨.bool true, [(0, l.map Event.v)]⟩ := by
  refine Ev.of_s' E_47 (X_47 _) rfl ?_
  (conv => whnf); repeat' ((first | intro g | refine st ?_ | (first | refine b1 ?_ ?_ | refine b2 ?_ ?_ | refine Br.mk ?_ ?_) <;> intro hc | exact rfl) <;> conv => whnf)
  refine LoopS.by (fun (_ : Unit) => ⟨[(0, .sl 0 0 0 l.length), (1, vi 0), (2, vnat l.length), (3, .fn g []), (9, vnat 1), (10, vi 0)], [(0, ⟨0, 5, true, false, some (l.map Event.v)⟩)]⟩)
    (fun _ => True) (fun _ => 0) () (by (refine ⟨?_, ?_⟩ <;> repeat' (first | exact True.intro | refine ai ?_ | refine And.intro ?_ ?_))) trivial ?_
  rintro _ _
  (conv => whnf); repeat' ((first | intro g | refine st ?_ | (first | refine b1 ?_ ?_ | refine b2 ?_ ?_ | refine Br.mk ?_ ?_) <;> intro hc | exact rfl) <;> conv => whnf)
  refine LoopS.by (fun (i : Nat) => ⟨[(0, .sl 0 0 0 l.length), (1, vi 0), (2, vnat l.length), (3, .fn g []), (9, vnat (i + 1)), (10, vi 0)], [(0, ⟨0, 5, true, false, some (l.map Event.v)⟩)]⟩)
    (fun i => i + 1 ≤ l.length) (fun i => l.length - i) 0 (by (refine ⟨?_, ?_⟩ <;> repeat' (first | exact True.intro | refine ai ?_ | refine And.intro ?_ ?_))) (by omega) ?_
  rintro i hi
  by_cases hlt : i + 1 < l.length
  · have hx := get_lt (l := l) (i := i) (by omega)
    have hy := get_lt (l := l) (i := i + 1) (by omega)
    have hn : ¬ c (l[i + 1]'hlt) (l[i]'(by omega)) < 0 := List.pairwise_iff_getElem.1 hs i (i + 1) (by omega) hlt (by omega)
    have hjw : IntKind.i64.wrap (((i + 1 : Nat) : Int) - 1) = (i : Int) := (wrap64 (by omega) (by omega)).trans (by omega)
    (conv => whnf); repeat' ((first | intro g | refine Wit.mk _ (map_get hy rfl) ?_ | refine Wit.mk _ (map_get hx hjw) ?_ | refine sAct_fn (by assumption) (by first | assumption | rfl | (simp only [V.arePure, V.isPure, Bool.and_self, Bool.true_and, Bool.and_true, *])) (hcmp _ _) rfl ?_ | refine st ?_ | (first | refine b1 ?_ ?_ | refine b2 ?_ ?_ | refine Br.mk ?_ ?_) <;> intro hc | exact rfl) <;> conv => whnf)
    refine NxtS.mk (i + 1) (by first | omega | (dsimp only; omega)) ?_ (by (refine ⟨?_, ?_⟩ <;> repeat' (first | exact True.intro | refine ai ?_ | refine And.intro ?_ ?_)))
    omega
  · have he : i + 1 = l.length := by omega
    have he' : ((i + 1 : Nat) : Int) = (l.length : Int) := by omega
    (conv => whnf); repeat' ((first | intro g | refine Need.mk (⟨rfl, rfl, Event.pures _⟩) ?_ | refine st ?_ | (first | refine b1 ?_ ?_ | refine b2 ?_ ?_ | refine Br.mk ?_ ?_) <;> intro hc | exact rfl) <;> conv => whnf)

theorem bitsLen : ∀ n, n < 200 → ∃ k : Int, (1 ≤ n → 1 ≤ k) ∧ Ev E 40 [.int .u64 (n : Nat)] ⟨vi k, []⟩ := by
  have key : (List.range 200).all (fun n => match call E 100 40 [.int .u64 (n : Nat)] with
    | some ⟨.int .i64 k, []⟩ => decide (n = 0 ∨ 1 ≤ k)
    | _ => false) = true := by kernel_rfl
  intro n hn
  have h := List.all_eq_true.1 key n (by simpa using hn)
  split at h
  · rename_i k hk
    simp only [decide_eq_true_eq] at h
    exact ⟨k, fun h1 => by omega, ⟨100, hk⟩⟩
  · simp at h

/-- few elements, or those that are in order -/
def SortFit (c : Event → Event → Int) (l : List Event) : Prop := l.length ≤ 12 ∨ l.length < 200 ∧ l.Pairwise (NotAfter c)

theorem pdq_Event (ho : CmpOk c) (hm : modesOf E g = []) (hcmp : ∀ a b : Event, Ev E g [a.v, b.v] ⟨vi (c a b), []⟩) (hf : SortFit c l) {k : Int} (hk : 1 ≤ l.length → 1 ≤ k) :
    ∃ l' : List Event, l'.Perm l ∧ l'.Pairwise (NotAfter c) ∧ Ev E 39 [.msl 5 (l.map Event.v) 0 l.length, vi 0, vnat l.length, vi k, .fn g []] ⟨.tuple [], [(0, l'.map Event.v)]⟩ := by
  by_cases h12 : l.length ≤ 12
  · obtain ⟨l', h1, h2, h3⟩ := insSort_Event ho hm hcmp (l0 := l) (by omega)
    refine ⟨l', h1, h2, ?_⟩
    have e0 : IntKind.i64.wrap ((l.length : Int) - 0) = l.length := (wrap64 (by omega) (by omega)).trans (by omega)
    refine Ev.of_s' E_39 (X_39 _) rfl ?_
    (conv => whnf); repeat' ((first | intro g | refine st ?_ | (first | refine b1 ?_ ?_ | refine b2 ?_ ?_ | refine Br.mk ?_ ?_) <;> intro hc | exact rfl) <;> conv => whnf)
    refine LoopS.by (fun (_ : Unit) => ⟨[(0, .sl 0 0 0 l.length), (1, vi 0), (2, vnat l.length), (3, vi k), (4, .fn g []), (10, .bool true), (11, .bool true)], [(0, ⟨0, 5, true, false, some (l.map Event.v)⟩)]⟩)
      (fun _ => True) (fun _ => 0) () (by (refine ⟨?_, ?_⟩ <;> repeat' (first | exact True.intro | refine ai ?_ | refine And.intro ?_ ?_))) trivial ?_
    rintro _ _
    (conv => whnf); repeat' ((first | intro g | refine Need.mk (⟨rfl, rfl, rfl, by simp, Event.pures _⟩) ?_ | refine Need.mk (⟨rfl, rfl, Event.pures _⟩) ?_ | refine CallS.mk _ (h3) ?_ | refine st ?_ | (first | refine b1 ?_ ?_ | refine b2 ?_ ?_ | refine Br.mk ?_ ?_) <;> intro hc | exact rfl) <;> conv => whnf)
  · obtain ⟨h200, hs⟩ : l.length < 200 ∧ l.Pairwise (NotAfter c) := hf.resolve_left h12
    obtain ⟨p, h1⟩ := choosePivot_Event (l := l) hm hcmp hs (by omega) (by omega)
    have h2 := partIns_Event (l := l) hm hcmp hs (by omega) (by omega)
    refine ⟨l, .refl _, hs, ?_⟩
    have hk1 := hk (by omega)
    have e0 : IntKind.i64.wrap ((l.length : Int) - 0) = l.length := (wrap64 (by omega) (by omega)).trans (by omega)
    refine Ev.of_s' E_39 (X_39 _) rfl ?_
    (conv => whnf); repeat' ((first | intro g | refine st ?_ | (first | refine b1 ?_ ?_ | refine b2 ?_ ?_ | refine Br.mk ?_ ?_) <;> intro hc | exact rfl) <;> conv => whnf)
    refine LoopS.by (fun (_ : Unit) => ⟨[(0, .sl 0 0 0 l.length), (1, vi 0), (2, vnat l.length), (3, vi k), (4, .fn g []), (10, .bool true), (11, .bool true)], [(0, ⟨0, 5, true, false, some (l.map Event.v)⟩)]⟩)
      (fun _ => True) (fun _ => 0) () (by (refine ⟨?_, ?_⟩ <;> repeat' (first | exact True.intro | refine ai ?_ | refine And.intro ?_ ?_))) trivial ?_
    rintro _ _
    (conv => whnf); repeat' ((first | intro g | refine Need.mk (⟨rfl, rfl, by simp, Event.pures _⟩) ?_ | refine Need.mk (⟨rfl, rfl, rfl, by simp, Event.pures _⟩) ?_ | refine Need.mk (⟨rfl, rfl, Event.pures _⟩) ?_ | refine Wit.mk _ (win_all rfl) ?_ | refine CallS.mk _ (h1) ?_ | refine CallS.mk _ (h2) ?_ | refine st ?_ | (first | refine b1 ?_ ?_ | refine b2 ?_ ?_ | refine Br.mk ?_ ?_) <;> intro hc | exact rfl) <;> conv => whnf)

theorem sortFunc_Event (ho : CmpOk c) (hm : modesOf E g = []) (hcmp : ∀ a b : Event, Ev E g [a.v, b.v] ⟨vi (c a b), []⟩) (hf : SortFit c l) :
    ∃ l' : List Event, l'.Perm l ∧ l'.Pairwise (NotAfter c) ∧ Ev E 25 [.msl 5 (l.map Event.v) 0 l.length, .fn g []] ⟨.tuple [], [(0, l'.map Event.v)]⟩ := by
  have hlen : l.length < 200 := by rcases hf with h | h <;> omega
  obtain ⟨k, hk, hb⟩ := bitsLen l.length hlen
  obtain ⟨l', h1, h2, h3⟩ := pdq_Event ho hm hcmp hf hk
  refine ⟨l', h1, h2, ?_⟩
  have hw : IntKind.u64.wrap (l.length : Int) = l.length := by
    simp [IntKind.wrap, IntKind.bits, IntKind.signed]; omega
  have hb' : Ev E 40 [.int .u64 (IntKind.u64.wrap (l.length : Int))] ⟨vi k, []⟩ := by rw [hw]; exact hb
  refine Ev.of_s' E_25 (X_25 _) rfl ?_
  (conv => whnf); repeat' ((first | intro g | refine Need.mk (⟨rfl, rfl, rfl, by simp, Event.pures _⟩) ?_ | refine Need.mk (⟨rfl, rfl, Event.pures _⟩) ?_ | refine CallS.mk _ (hb') ?_ | refine CallS.mk _ (h3) ?_ | refine st ?_ | (first | refine b1 ?_ ?_ | refine b2 ?_ ?_ | refine Br.mk ?_ ?_) <;> intro hc | exact rfl) <;> conv => whnf)
end

end Go.AM

set_option maxRecDepth 20000
namespace Go.AM

def canAt (ps : List Place) (p : Place) (j : Nat) : Option Place := match ps[j]? with
  | some o => if findP ps o.id = j ∧ canP ps p.id o.id = 0 then some o else none
  | none => none
def canList (ps : List Place) (p : Place) (i : Nat) : List Place := (List.range i).filterMap (canAt ps p)
/-- the best so far -/
def bestOf (ps : List Place) (p : Place) (j : Nat) : Option Place := match canList ps p j with
  | [] => none
  | x :: xs => some (minF (cmpFrom p) xs x)
theorem canList_succ (ps : List Place) (p : Place) (i : Nat) : canList ps p (i + 1) = canList ps p i ++ (canAt ps p i).toList := by
  simp only [canList, List.range_succ, List.filterMap_append]
  cases h : canAt ps p i <;> simp [List.filterMap_cons, h]
theorem canList_len (ps : List Place) (p : Place) (i : Nat) : (canList ps p i).length ≤ i := by
  simp only [canList]
  exact Nat.le_trans (List.length_filterMap_le _ _) (by simp)
theorem minF_append {α : Type} (c : α → α → Int) : ∀ (l : List α) (x y : α), minF c (l ++ [y]) x = if c y (minF c l x) < 0 then y else minF c l x
  | [], x, y => rfl
  | z :: l, x, y => by
    have e : ∀ l', minF c (z :: l') x = minF c l' (if c z x < 0 then z else x) := fun _ => rfl
    rw [List.cons_append, e, e, minF_append c l _ y]
theorem minF_mem {α : Type} (c : α → α → Int) : ∀ (l : List α) (x : α), minF c l x ∈ x :: l
  | [], x => by simp [minF]
  | y :: l, x => by
    have ih := minF_mem c l (if c y x < 0 then y else x)
    have e : minF c (y :: l) x = minF c l (if c y x < 0 then y else x) := rfl
    rw [e]
    rcases List.mem_cons.1 ih with h | h
    · rw [h]; split <;> simp
    · simp [h]
theorem canAt_some {ps : List Place} {p o : Place} {j : Nat} (h : canAt ps p j = some o) : ps[j]? = some o ∧ findP ps o.id = j ∧ canP ps p.id o.id = 0 := by
  unfold canAt at h
  split at h
  · split at h
    · rename_i hc
      injection h with h; subst h
      exact ⟨by assumption, hc.1, hc.2⟩
    · simp at h
  · simp at h
theorem bestOf_mem {ps : List Place} {p o : Place} {j : Nat} (h : bestOf ps p j = some o) : ∃ i, i < j ∧ ps[i]? = some o ∧ findP ps o.id = i ∧ canP ps p.id o.id = 0 := by
  unfold bestOf at h
  split at h
  · simp at h
  · rename_i x xs hc
    injection h with h
    have := minF_mem (cmpFrom p) xs x
    rw [h, ← hc, canList, List.mem_filterMap] at this
    obtain ⟨i, hi, h2⟩ := this
    exact ⟨i, by simpa using hi, canAt_some h2⟩
theorem bestOf_succ (ps : List Place) (p : Place) (j : Nat) : bestOf ps p (j + 1) = match canAt ps p j with
    | none => bestOf ps p j
    | some o => match bestOf ps p j with
      | none => some o
      | some b => if cmpFrom p o b < 0 then some o else some b := by
  unfold bestOf
  rw [canList_succ]
  cases hc : canAt ps p j with
  | none => simp
  | some o =>
    cases hl : canList ps p j with
    | nil => simp [minF]
    | cons x xs =>
      simp only [Option.toList_some, List.cons_append, minF_append]
      split <;> rfl
theorem cmpFrom_lt {p o b : Place} : cmpFrom p o b < 0 ↔ sqP p o < sqP p b ∨ sqP p o = sqP p b ∧ o.id < b.id := by
  unfold cmpFrom orI cmpI
  repeat' split
  all_goals omega

def evOf (ps : List Place) (p : Place) (o : Place) : Prop := True
/-- the event of a place -/
noncomputable def evAt (ps : List Place) (d : Int) (j : Nat) : Option Event := match ps[j]? with
  | some p => if p.dist = d ∧ findP ps p.id = j then (match bestOf ps p ps.length with
    | some o => some ⟨4, if 1 < costP ps p.id o.id then costP ps p.id o.id else 1, p.id, o.id, 0⟩
    | none => none) else none
  | none => none
noncomputable def evList (ps : List Place) (d : Int) (i : Nat) : List Event := (List.range i).filterMap (evAt ps d)
theorem evList_succ (ps : List Place) (d : Int) (i : Nat) : evList ps d (i + 1) = evList ps d i ++ (evAt ps d i).toList := by
  simp only [evList, List.range_succ, List.filterMap_append]
  cases h : evAt ps d i <;> simp [List.filterMap_cons, h]
theorem evList_len (ps : List Place) (d : Int) (i : Nat) : (evList ps d i).length ≤ i := by
  simp only [evList]
  exact Nat.le_trans (List.length_filterMap_le _ _) (by simp)

def cmpId (a b : Event) : Int := cmpI a.id b.id
theorem cmpId_ev (a b : Event) : Ev E 26 [a.v, b.v] ⟨vi (cmpId a b), []⟩ := by
  refine Ev.of_s' E_26 (X_26 _) rfl ?_
  (conv => whnf); repeat' ((first | intro g | refine CallS.mk _ (compare_ev _ _) ?_ | refine st ?_ | (first | refine b1 ?_ ?_ | refine b2 ?_ ?_ | refine Br.mk ?_ ?_) <;> intro hc | exact rfl) <;> conv => whnf)
theorem cmpId_ok : CmpOk cmpId where
  tr := fun a b d h1 h2 => by unfold cmpId cmpI at *; repeat' split at *; all_goals omega
  as := fun a b h => by unfold cmpId cmpI at *; repeat' split at *; all_goals omega

section
variable {m : GMap} (hlen : m.places.length < 1000000)
include hlen

set_option maxHeartbeats 2000000 in
theorem nearest_ev (p : Place) : Ev E 129 [m.v, p.v] ⟨(match bestOf m.places p m.places.length with
    | some o => .tuple [vi o.id, .bool true]
    | none => .tuple [vi 0, .bool false]), []⟩ := by
  have hplace := rplace_ev hlen
  have hcan := rcan_ev hlen
  refine Ev.of_s' E_129 (X_129 _) rfl ?_
  (conv => whnf); repeat' ((first | intro g | refine st ?_ | (first | refine b1 ?_ ?_ | refine b2 ?_ ?_ | refine Br.mk ?_ ?_) <;> intro hc | exact rfl) <;> conv => whnf)
  rename_i g1
  refine LoopS.by (fun ((k, best) : Nat × Int) => ⟨[(2, .ptr 48 g1 0 0), (3, .ptr 64 g 0 0), (6, vi best), (7, vnat k)], [(48, ⟨g1, 4, false, false, some [m.v]⟩), (64, ⟨g, 7, false, false, some [p.v]⟩)]⟩)
    (fun (k, best) => k ≤ m.places.length ∧ (match bestOf m.places p k with
      | none => best = -1
      | some o => ∃ b : Nat, best = b ∧ m.places[b]? = some o)) (fun (k, _) => m.places.length - k) (0, -1) (by (refine ⟨?_, ?_⟩ <;> repeat' (first | exact True.intro | refine ai ?_ | refine And.intro ?_ ?_))) ⟨by simp, rfl⟩ ?_
  rintro ⟨k, best⟩ ⟨hk, hb⟩
  try dsimp only at hk hb
  by_cases hlt : k < m.places.length
  · obtain ⟨o, ho⟩ : ∃ o, m.places[k]? = some o := ⟨_, get_lt hlt⟩
    have hs := bestOf_succ m.places p k
    have hpl := hplace o.id
    have hca := hcan p.id o.id
    by_cases hf : findP m.places o.id = k
    case neg =>
      have hc : canAt m.places p k = none := by simp [canAt, ho, hf]
      rw [hc] at hs
      (conv => whnf); repeat' ((first | intro g | refine Wit.mk _ (map_get ho rfl) ?_ | refine CallS.mk _ (hpl) ?_ | refine CallS.mk _ (hca) ?_ | refine st ?_ | (first | refine b1 ?_ ?_ | refine b2 ?_ ?_ | refine Br.mk ?_ ?_) <;> intro hc | exact rfl) <;> conv => whnf)
      all_goals (refine NxtS.mk (k + 1, best) (by first | omega | (dsimp only; omega)) ⟨(by first | omega | (dsimp only; omega)), ?_⟩ (by (refine ⟨?_, ?_⟩ <;> repeat' (first | exact True.intro | refine ai ?_ | refine And.intro ?_ ?_))); try dsimp only)
      all_goals (rw [hs]; exact hb)
    rw [hf] at hpl
    by_cases hc0 : canP m.places p.id o.id = 0
    case neg =>
      have hc : canAt m.places p k = none := by simp [canAt, ho, hf, hc0]
      rw [hc] at hs
      (conv => whnf); repeat' ((first | intro g | refine Wit.mk _ (map_get ho rfl) ?_ | refine CallS.mk _ (hpl) ?_ | refine CallS.mk _ (hca) ?_ | refine st ?_ | (first | refine b1 ?_ ?_ | refine b2 ?_ ?_ | refine Br.mk ?_ ?_) <;> intro hc | exact rfl) <;> conv => whnf)
      all_goals (refine NxtS.mk (k + 1, best) (by first | omega | (dsimp only; omega)) ⟨(by first | omega | (dsimp only; omega)), ?_⟩ (by (refine ⟨?_, ?_⟩ <;> repeat' (first | exact True.intro | refine ai ?_ | refine And.intro ?_ ?_))); try dsimp only)
      all_goals (rw [hs]; exact hb)
    rw [hc0] at hca
    have hc : canAt m.places p k = some o := by simp [canAt, ho, hf, hc0]
    rw [hc] at hs
    cases hbo : bestOf m.places p k with
    | none =>
      rw [hbo] at hb hs
      try dsimp only at hb hs
      subst hb
      (conv => whnf); repeat' ((first | intro g | refine Wit.mk _ (map_get ho rfl) ?_ | refine CallS.mk _ (hpl) ?_ | refine CallS.mk _ (hca) ?_ | refine st ?_ | (first | refine b1 ?_ ?_ | refine b2 ?_ ?_ | refine Br.mk ?_ ?_) <;> intro hc | exact rfl) <;> conv => whnf)
      all_goals (refine NxtS.mk (k + 1, (k : Int)) (by first | omega | (dsimp only; omega)) ⟨(by first | omega | (dsimp only; omega)), ?_⟩ (by (refine ⟨?_, ?_⟩ <;> repeat' (first | exact True.intro | refine ai ?_ | refine And.intro ?_ ?_))); try dsimp only)
      all_goals (rw [hs]; exact ⟨k, rfl, ho⟩)
    | some b =>
      rw [hbo] at hb hs
      try dsimp only at hb hs
      obtain ⟨bi, rfl, hbi⟩ := hb
      have hsq1 := rsquare_ev p.at_ o.at_
      have hsq2 := rsquare_ev p.at_ b.at_
      (conv => whnf); repeat' ((first | intro g | refine Wit.mk _ (map_get ho rfl) ?_ | refine Wit.mk _ (map_get hbi rfl) ?_ | refine CallS.mk _ (hpl) ?_ | refine CallS.mk _ (hca) ?_ | refine CallS.mk _ (hsq1) ?_ | refine CallS.mk _ (hsq2) ?_ | refine st ?_ | (first | refine b1 ?_ ?_ | refine b2 ?_ ?_ | refine Br.mk ?_ ?_) <;> intro hc | exact rfl) <;> conv => whnf)
      · have hlt' : cmpFrom p o b < 0 := cmpFrom_lt.2 (.inl hc)
        rw [if_pos hlt'] at hs
        refine NxtS.mk (k + 1, (k : Int)) (by first | omega | (dsimp only; omega)) ⟨(by first | omega | (dsimp only; omega)), ?_⟩ (by (refine ⟨?_, ?_⟩ <;> repeat' (first | exact True.intro | refine ai ?_ | refine And.intro ?_ ?_)))
        try dsimp only
        rw [hs]; exact ⟨k, rfl, ho⟩
      · rename_i h1 h2
        have hlt' : cmpFrom p o b < 0 := cmpFrom_lt.2 (.inr ⟨h2, hc⟩)
        rw [if_pos hlt'] at hs
        refine NxtS.mk (k + 1, (k : Int)) (by first | omega | (dsimp only; omega)) ⟨(by first | omega | (dsimp only; omega)), ?_⟩ (by (refine ⟨?_, ?_⟩ <;> repeat' (first | exact True.intro | refine ai ?_ | refine And.intro ?_ ?_)))
        try dsimp only
        rw [hs]; exact ⟨k, rfl, ho⟩
      · rename_i h1 h2
        have hlt' : ¬ cmpFrom p o b < 0 := fun h => by
          rcases cmpFrom_lt.1 h with h | ⟨_, h⟩
          · exact h1 h
          · exact hc h
        rw [if_neg hlt'] at hs
        refine NxtS.mk (k + 1, (bi : Int)) (by first | omega | (dsimp only; omega)) ⟨(by first | omega | (dsimp only; omega)), ?_⟩ (by (refine ⟨?_, ?_⟩ <;> repeat' (first | exact True.intro | refine ai ?_ | refine And.intro ?_ ?_)))
        try dsimp only
        rw [hs]; exact ⟨bi, rfl, hbi⟩
      · rename_i h1
        have hlt' : ¬ cmpFrom p o b < 0 := fun h => by
          rcases cmpFrom_lt.1 h with h | ⟨h, _⟩
          · exact h1 h
          · exact hc h
        rw [if_neg hlt'] at hs
        refine NxtS.mk (k + 1, (bi : Int)) (by first | omega | (dsimp only; omega)) ⟨(by first | omega | (dsimp only; omega)), ?_⟩ (by (refine ⟨?_, ?_⟩ <;> repeat' (first | exact True.intro | refine ai ?_ | refine And.intro ?_ ?_)))
        try dsimp only
        rw [hs]; exact ⟨bi, rfl, hbi⟩
  · have : k = m.places.length := by omega
    subst this
    cases hbo : bestOf m.places p m.places.length with
    | none =>
      rw [hbo] at hb
      try dsimp only at hb
      subst hb
      (conv => whnf); repeat' ((first | intro g | refine st ?_ | (first | refine b1 ?_ ?_ | refine b2 ?_ ?_ | refine Br.mk ?_ ?_) <;> intro hc | exact rfl) <;> conv => whnf)
    | some b =>
      rw [hbo] at hb
      try dsimp only at hb
      obtain ⟨bi, rfl, hbi⟩ := hb
      (conv => whnf); repeat' ((first | intro g | refine Wit.mk _ (map_get hbi rfl) ?_ | refine st ?_ | (first | refine b1 ?_ ?_ | refine b2 ?_ ?_ | refine Br.mk ?_ ?_) <;> intro hc | exact rfl) <;> conv => whnf)
end
end Go.AM

set_option maxRecDepth 20000
namespace Go.AM

section
variable {m : GMap} (hlen : m.places.length < 1000000)
include hlen

set_option maxHeartbeats 4000000 in
theorem all_ev (d : Int) (hfit : SortFit cmpId (evList m.places d m.places.length)) :
    ∃ l' : List Event, l'.Perm (evList m.places d m.places.length) ∧ l'.Pairwise (NotAfter cmpId) ∧ Ev E 9 [m.v, vi d] ⟨.own 5 (l'.map Event.v), []⟩ := by
  have hfind := find_ev hlen
  have hcan := can_ev hlen
  have hcost := cost_ev hlen
  obtain ⟨l', hp1, hp2, hsort⟩ := sortFunc_Event (g := 26) cmpId_ok rfl cmpId_ev hfit
  refine ⟨l', hp1, hp2, ?_⟩
  have hll := hp1.length_eq
  refine Ev.of_s' E_9 (X_9 _) rfl ?_
  (conv => whnf); repeat' ((first | intro g | refine st ?_ | (first | refine b1 ?_ ?_ | refine b2 ?_ ?_ | refine Br.mk ?_ ?_) <;> intro hc | exact rfl) <;> conv => whnf)
  rename_i g1 g2
  refine LoopS.by (fun ((k, es, g5) : Nat × List Event × Nat) => ⟨[(1, vi d), (2, .ptr 48 g1 0 0), (5, .sl 97 g5 0 es.length), (14, .lit 7 (m.places.map Place.v)), (15, vnat (m.places.map Place.v).length), (16, vnat k)], [(48, ⟨g1, 4, false, false, some [m.v]⟩), (97, ⟨g5, 5, true, false, some (es.map Event.v)⟩)]⟩)
    (fun (k, es, _) => k ≤ m.places.length ∧ es = evList m.places d k) (fun (k, _) => m.places.length - k) (0, [], g) (by (refine ⟨?_, ?_⟩ <;> repeat' (first | exact True.intro | refine ai ?_ | refine And.intro ?_ ?_))) ⟨by simp, rfl⟩ ?_
  rintro ⟨k, es, g5⟩ ⟨hk, hes⟩
  try dsimp only at hk hes
  have hel := evList_len m.places d k
  rw [← hes] at hel
  by_cases hlt : k < m.places.length
  · obtain ⟨p, hpk⟩ : ∃ p, m.places[k]? = some p := ⟨_, get_lt hlt⟩
    have hs := evList_succ m.places d k
    rw [← hes] at hs
    have hfp := hfind p.id
    by_cases hd : p.dist = d
    case neg =>
      have he : evAt m.places d k = none := by simp [evAt, hpk, hd]
      rw [he] at hs
      (conv => whnf); repeat' ((first | intro g | refine Wit.mk _ (map_get hpk rfl) ?_ | refine CallS.mk _ (hfp) ?_ | refine st ?_ | (first | refine b1 ?_ ?_ | refine b2 ?_ ?_ | refine Br.mk ?_ ?_) <;> intro hc | exact rfl) <;> conv => whnf)
      all_goals exact NxtS.mk (k + 1, es, g5) (by first | omega | (dsimp only; omega)) ⟨(by first | omega | (dsimp only; omega)), by simpa using hs.symm⟩ (by (refine ⟨?_, ?_⟩ <;> repeat' (first | exact True.intro | refine ai ?_ | refine And.intro ?_ ?_)))
    by_cases hf : findP m.places p.id = k
    case neg =>
      have he : evAt m.places d k = none := by simp [evAt, hpk, hf]
      rw [he] at hs
      (conv => whnf); repeat' ((first | intro g | refine Wit.mk _ (map_get hpk rfl) ?_ | refine CallS.mk _ (hfp) ?_ | refine st ?_ | (first | refine b1 ?_ ?_ | refine b2 ?_ ?_ | refine Br.mk ?_ ?_) <;> intro hc | exact rfl) <;> conv => whnf)
      all_goals exact NxtS.mk (k + 1, es, g5) (by first | omega | (dsimp only; omega)) ⟨(by first | omega | (dsimp only; omega)), by simpa using hs.symm⟩ (by (refine ⟨?_, ?_⟩ <;> repeat' (first | exact True.intro | refine ai ?_ | refine And.intro ?_ ?_)))
    rw [hf] at hfp
    (conv => whnf); repeat' ((first | intro g | refine Wit.mk _ (map_get hpk rfl) ?_ | refine CallS.mk _ (hfp) ?_ | refine st ?_ | (first | refine b1 ?_ ?_ | refine b2 ?_ ?_ | refine Br.mk ?_ ?_) <;> intro hc | exact rfl) <;> conv => whnf)
    rename_i g7
    refine LoopS.by (fun ((i, cs, g8) : Nat × List Place × Nat) => ⟨[(1, vi d), (2, .ptr 48 g1 0 0), (5, .sl 97 g5 0 es.length), (14, .lit 7 (m.places.map Place.v)), (15, vnat (m.places.map Place.v).length), (16, vnat k),
        (7, .ptr 128 g7 0 0), (8, .sl 145 g8 0 cs.length), (34, .lit 7 (m.places.map Place.v)), (35, vnat (m.places.map Place.v).length), (36, vnat i)],
        [(48, ⟨g1, 4, false, false, some [m.v]⟩), (97, ⟨g5, 5, true, false, some (es.map Event.v)⟩), (128, ⟨g7, 7, false, false, some [p.v]⟩), (145, ⟨g8, 7, true, false, some (cs.map Place.v)⟩)]⟩)
      (fun (i, cs, _) => i ≤ m.places.length ∧ cs = canList m.places p i) (fun (i, _) => m.places.length - i) (0, [], g) (by (refine ⟨?_, ?_⟩ <;> repeat' (first | exact True.intro | refine ai ?_ | refine And.intro ?_ ?_))) ⟨by simp, rfl⟩ ?_
    rintro ⟨i, cs, g8⟩ ⟨hi, hcs⟩
    try dsimp only at hi hcs
    have hcl := canList_len m.places p i
    rw [← hcs] at hcl
    by_cases hlti : i < m.places.length
    · obtain ⟨o, ho⟩ : ∃ o, m.places[i]? = some o := ⟨_, get_lt hlti⟩
      have hs2 := canList_succ m.places p i
      rw [← hcs] at hs2
      have hfo := hfind o.id
      have hca := hcan p.id o.id
      by_cases hfi : findP m.places o.id = i
      case neg =>
        have hc : canAt m.places p i = none := by simp [canAt, ho, hfi]
        rw [hc] at hs2
        (conv => whnf); repeat' ((first | intro g | refine Wit.mk _ (map_get ho rfl) ?_ | refine CallS.mk _ (hfo) ?_ | refine CallS.mk _ (hca) ?_ | refine st ?_ | (first | refine b1 ?_ ?_ | refine b2 ?_ ?_ | refine Br.mk ?_ ?_) <;> intro hc | exact rfl) <;> conv => whnf)
        all_goals exact NxtS.mk (i + 1, cs, g8) (by first | omega | (dsimp only; omega)) ⟨(by first | omega | (dsimp only; omega)), by simpa using hs2.symm⟩ (by (refine ⟨?_, ?_⟩ <;> repeat' (first | exact True.intro | refine ai ?_ | refine And.intro ?_ ?_)))
      rw [hfi] at hfo
      by_cases hc0 : canP m.places p.id o.id = 0
      case neg =>
        have hc : canAt m.places p i = none := by simp [canAt, ho, hc0]
        rw [hc] at hs2
        (conv => whnf); repeat' ((first | intro g | refine Wit.mk _ (map_get ho rfl) ?_ | refine CallS.mk _ (hfo) ?_ | refine CallS.mk _ (hca) ?_ | refine st ?_ | (first | refine b1 ?_ ?_ | refine b2 ?_ ?_ | refine Br.mk ?_ ?_) <;> intro hc | exact rfl) <;> conv => whnf)
        all_goals exact NxtS.mk (i + 1, cs, g8) (by first | omega | (dsimp only; omega)) ⟨(by first | omega | (dsimp only; omega)), by simpa using hs2.symm⟩ (by (refine ⟨?_, ?_⟩ <;> repeat' (first | exact True.intro | refine ai ?_ | refine And.intro ?_ ?_)))
      rw [hc0] at hca
      have hc : canAt m.places p i = some o := by simp [canAt, ho, hfi, hc0]
      rw [hc] at hs2
      (conv => whnf); repeat' ((first | intro g | refine Wit.mk _ (map_get ho rfl) ?_ | refine CallS.mk _ (hfo) ?_ | refine CallS.mk _ (hca) ?_ | refine st ?_ | (first | refine b1 ?_ ?_ | refine b2 ?_ ?_ | refine Br.mk ?_ ?_) <;> intro hc | exact rfl) <;> conv => whnf)
      exact NxtS.mk (i + 1, cs ++ [o], g) (by first | omega | (dsimp only; omega)) ⟨(by first | omega | (dsimp only; omega)), by simpa using hs2.symm⟩ (by (refine ⟨?_, ?_⟩ <;> repeat' (first | exact True.intro | refine ai ?_ | refine And.intro ?_ ?_)))
    · have : i = m.places.length := by omega
      subst this
      have hev : evAt m.places d k = (match bestOf m.places p m.places.length with
        | some o => some ⟨4, if 1 < costP m.places p.id o.id then costP m.places p.id o.id else 1, p.id, o.id, 0⟩
        | none => none) := by
        simp only [evAt, hpk, hd, hf, and_self, if_true]
        cases bestOf m.places p m.places.length <;> rfl
      unfold bestOf at hev
      rw [← hcs] at hev
      cases cs with
      | nil =>
        have hle := least_nil p
        dsimp only at hev
        (conv => whnf); repeat' ((first | intro g | refine Wit.mk _ (win_all (l := ([] : List Place)) rfl) ?_ | refine CallS.mk _ (hle) ?_ | refine st ?_ | (first | refine b1 ?_ ?_ | refine b2 ?_ ?_ | refine Br.mk ?_ ?_) <;> intro hc | exact rfl) <;> conv => whnf)
        rw [hev] at hs
        exact NxtS.mk (k + 1, es, g5) (by first | omega | (dsimp only; omega)) ⟨(by first | omega | (dsimp only; omega)), by simpa using hs.symm⟩ (by (refine ⟨?_, ?_⟩ <;> repeat' (first | exact True.intro | refine ai ?_ | refine And.intro ?_ ?_)))
      | cons x xs =>
        have hle := least_ev p (l := xs) (x0 := x) (by simp only [List.length_cons] at hcl; omega)
        dsimp only at hev
        generalize hxo : minF (cmpFrom p) xs x = o at hle hev
        have hco := hcost p.id o.id
        (conv => whnf); repeat' ((first | intro g | refine Wit.mk _ (win_all rfl) ?_ | refine CallS.mk _ (hle) ?_ | refine CallS.mk _ (hco) ?_ | refine st ?_ | (first | refine b1 ?_ ?_ | refine b2 ?_ ?_ | refine Br.mk ?_ ?_) <;> intro hc | exact rfl) <;> conv => whnf)
        rw [hev] at hs
        exact NxtS.mk (k + 1, es ++ [⟨4, if 1 < costP m.places p.id o.id then costP m.places p.id o.id else 1, p.id, o.id, 0⟩], g) (by first | omega | (dsimp only; omega)) ⟨(by first | omega | (dsimp only; omega)), by simpa using hs.symm⟩ (by (refine ⟨?_, ?_⟩ <;> repeat' (first | exact True.intro | refine ai ?_ | refine And.intro ?_ ?_)))
  · have : k = m.places.length := by omega
    subst this
    subst hes
    (conv => whnf); repeat' ((first | intro g | refine Need.mk (⟨rfl, rfl, rfl, by simp, Event.pures _⟩) ?_ | refine Wit.mk _ (win_all (by omega)) ?_ | refine CallS.mk _ (hsort) ?_ | refine st ?_ | (first | refine b1 ?_ ?_ | refine b2 ?_ ?_ | refine Br.mk ?_ ?_) <;> intro hc | exact rfl) <;> conv => whnf)
end
end Go.AM

set_option maxRecDepth 20000
namespace Go.AM

def Before (a b : Event) : Prop := a.id < b.id

theorem evAt_id {ps : List Place} {d : Int} {j : Nat} {e : Event} (h : evAt ps d j = some e) : findP ps e.id = j ∧ ∃ p, ps[j]? = some p ∧ e.id = p.id := by
  unfold evAt at h
  split at h
  · split at h
    · rename_i p hp hc
      split at h
      · injection h with h
        subst h
        exact ⟨hc.2, p, hp, rfl⟩
      · simp at h
    · simp at h
  · simp at h
theorem evList_id {ps : List Place} {d : Int} {k : Nat} {e : Event} (h : e ∈ evList ps d k) : ∃ j, j < k ∧ findP ps e.id = j := by
  simp only [evList, List.mem_filterMap] at h
  obtain ⟨j, hj, h⟩ := h
  exact ⟨j, by simpa using hj, (evAt_id h).1⟩

theorem ins_sorted {l : List Event} {e : Event} {n : Nat} (hs : l.Pairwise Before) (h1 : ∀ (i : Nat) x, i < n → l[i]? = some x → x.id < e.id) (h2 : ∀ x, l[n]? = some x → e.id < x.id) (hn : n ≤ l.length) :
    (l.take n ++ e :: l.drop n).Pairwise Before := by
  have hs' := hs
  rw [← List.take_append_drop n l, List.pairwise_append] at hs'
  obtain ⟨a1, a2, a3⟩ := hs'
  rw [List.pairwise_append]
  have hd : ∀ x ∈ l.drop n, e.id < x.id := by
    intro x hx
    cases hdr : l.drop n with
    | nil => rw [hdr] at hx; simp at hx
    | cons y t =>
      have hy : l[n]? = some y := by
        have := congrArg (·[0]?) hdr
        simpa using this
      have h3 := h2 y hy
      rw [hdr] at hx a2
      rcases List.mem_cons.1 hx with rfl | hx
      · exact h3
      · exact Int.lt_trans h3 ((List.pairwise_cons.1 a2).1 x hx)
  refine ⟨a1, List.pairwise_cons.2 ⟨fun x hx => hd x hx, a2⟩, fun a ha b hb => ?_⟩
  have ha' : a.id < e.id := by
    obtain ⟨i, hi⟩ := List.mem_iff_getElem?.1 ha
    have hlt : i < n := by
      have := (List.getElem?_eq_some_iff.1 hi).1
      simp at this; omega
    refine h1 i a hlt ?_
    rw [List.getElem?_take, if_pos hlt] at hi
    exact hi
  rcases List.mem_cons.1 hb with rfl | hb
  · exact ha'
  · exact Int.lt_trans ha' (hd b hb)
theorem ins_perm {l : List Event} {e : Event} {n : Nat} : (l.take n ++ e :: l.drop n).Perm (l ++ [e]) := by
  have h1 : (l.take n ++ e :: l.drop n).Perm (e :: (l.take n ++ l.drop n)) := List.perm_middle
  rw [List.take_append_drop] at h1
  exact h1.trans (List.perm_append_comm (l₁ := [e]))

section
variable {m : GMap} (hlen : m.places.length < 1000000)
include hlen

set_option maxHeartbeats 4000000 in
theorem rall_ev (d : Int) :
    ∃ l' : List Event, l'.Perm (evList m.places d m.places.length) ∧ l'.Pairwise Before ∧ Ev E 91 [m.v, vi d] ⟨.own 5 (l'.map Event.v), []⟩ := by
  have key := Ev.of_s (R := fun r => ∃ l' : List Event, l'.Perm (evList m.places d m.places.length) ∧ l'.Pairwise Before ∧ r = ⟨.own 5 (l'.map Event.v), []⟩) E_91 (X_91 [m.v, vi d]) rfl ?_
  · obtain ⟨res, h1, l', h2, h3, rfl⟩ := key
    exact ⟨l', h2, h3, h1⟩
  have hplace := rplace_ev hlen
  have hcost := rcost_ev hlen
  have hnear := nearest_ev hlen
  (conv => whnf); repeat' ((first | intro g | refine st ?_ | (first | refine b1 ?_ ?_ | refine b2 ?_ ?_ | refine Br.mk ?_ ?_) <;> intro hc | exact rfl) <;> conv => whnf)
  rename_i g1
  refine LoopS.by (fun ((k, es, g5) : Nat × List Event × Nat) => ⟨[(1, vi d), (2, .ptr 48 g1 0 0), (5, .sl 97 g5 0 es.length), (6, vnat k)], [(48, ⟨g1, 4, false, false, some [m.v]⟩), (97, ⟨g5, 5, true, false, some (es.map Event.v)⟩)]⟩)
    (fun (k, es, _) => k ≤ m.places.length ∧ es.Perm (evList m.places d k) ∧ es.Pairwise Before) (fun (k, _) => m.places.length - k) (0, [], g) (by (refine ⟨?_, ?_⟩ <;> repeat' (first | exact True.intro | refine ai ?_ | refine And.intro ?_ ?_))) ⟨by simp, .refl _, .nil⟩ ?_
  rintro ⟨k, es, g5⟩ ⟨hk, hes, hsrt⟩
  try dsimp only at hk hes hsrt
  have hel : es.length ≤ k := by rw [hes.length_eq]; exact evList_len m.places d k
  by_cases hlt : k < m.places.length
  · obtain ⟨p, hpk⟩ : ∃ p, m.places[k]? = some p := ⟨_, get_lt hlt⟩
    have hs := evList_succ m.places d k
    have hfp := hplace p.id
    by_cases hd : p.dist = d
    case neg =>
      have he : evAt m.places d k = none := by simp [evAt, hpk, hd]
      rw [he] at hs
      (conv => whnf); repeat' ((first | intro g | refine Wit.mk _ (map_get hpk rfl) ?_ | refine CallS.mk _ (hfp) ?_ | refine st ?_ | (first | refine b1 ?_ ?_ | refine b2 ?_ ?_ | refine Br.mk ?_ ?_) <;> intro hc | exact rfl) <;> conv => whnf)
      all_goals exact NxtS.mk (k + 1, es, g5) (by first | omega | (dsimp only; omega)) ⟨(by first | omega | (dsimp only; omega)), by rw [hs]; simpa using hes, hsrt⟩ (by (refine ⟨?_, ?_⟩ <;> repeat' (first | exact True.intro | refine ai ?_ | refine And.intro ?_ ?_)))
    by_cases hf : findP m.places p.id = k
    case neg =>
      have he : evAt m.places d k = none := by simp [evAt, hpk, hf]
      rw [he] at hs
      (conv => whnf); repeat' ((first | intro g | refine Wit.mk _ (map_get hpk rfl) ?_ | refine CallS.mk _ (hfp) ?_ | refine st ?_ | (first | refine b1 ?_ ?_ | refine b2 ?_ ?_ | refine Br.mk ?_ ?_) <;> intro hc | exact rfl) <;> conv => whnf)
      all_goals exact NxtS.mk (k + 1, es, g5) (by first | omega | (dsimp only; omega)) ⟨(by first | omega | (dsimp only; omega)), by rw [hs]; simpa using hes, hsrt⟩ (by (refine ⟨?_, ?_⟩ <;> repeat' (first | exact True.intro | refine ai ?_ | refine And.intro ?_ ?_)))
    rw [hf] at hfp
    have hn := hnear p
    cases hb : bestOf m.places p m.places.length with
    | none =>
      have he : evAt m.places d k = none := by simp [evAt, hpk, hd, hf, hb]
      rw [he] at hs
      rw [hb] at hn
      (conv => whnf); repeat' ((first | intro g | refine Wit.mk _ (map_get hpk rfl) ?_ | refine CallS.mk _ (hfp) ?_ | refine CallS.mk _ (hn) ?_ | refine st ?_ | (first | refine b1 ?_ ?_ | refine b2 ?_ ?_ | refine Br.mk ?_ ?_) <;> intro hc | exact rfl) <;> conv => whnf)
      all_goals exact NxtS.mk (k + 1, es, g5) (by first | omega | (dsimp only; omega)) ⟨(by first | omega | (dsimp only; omega)), by rw [hs]; simpa using hes, hsrt⟩ (by (refine ⟨?_, ?_⟩ <;> repeat' (first | exact True.intro | refine ai ?_ | refine And.intro ?_ ?_)))
    | some o =>
      have he : evAt m.places d k = some ⟨4, if 1 < costP m.places p.id o.id then costP m.places p.id o.id else 1, p.id, o.id, 0⟩ := by simp [evAt, hpk, hd, hf, hb]
      rw [he] at hs
      rw [hb] at hn
      have hco := hcost p.id o.id
      (conv => whnf); repeat' ((first | intro g | refine Wit.mk _ (map_get hpk rfl) ?_ | refine CallS.mk _ (hfp) ?_ | refine CallS.mk _ (hn) ?_ | refine st ?_ | (first | refine b1 ?_ ?_ | refine b2 ?_ ?_ | refine Br.mk ?_ ?_) <;> intro hc | exact rfl) <;> conv => whnf)
      refine LoopS.by (fun (at_ : Nat) => ⟨[(1, vi d), (2, .ptr 48 g1 0 0), (5, .sl 97 g5 0 es.length), (6, vnat k), (7, .ptr 128 g 0 0), (8, vi o.id), (10, vnat at_)],
        [(48, ⟨g1, 4, false, false, some [m.v]⟩), (97, ⟨g5, 5, true, false, some (es.map Event.v)⟩), (128, ⟨g, 7, false, false, some [p.v]⟩)]⟩)
        (fun at_ => at_ ≤ es.length ∧ ∀ (i : Nat) x, i < at_ → es[i]? = some x → x.id < p.id) (fun at_ => es.length - at_) 0 (by (refine ⟨?_, ?_⟩ <;> repeat' (first | exact True.intro | refine ai ?_ | refine And.intro ?_ ?_))) ⟨by simp, by simp⟩ ?_
      rintro a ⟨ha, hbef⟩
      by_cases hal : a < es.length
      · obtain ⟨e, hea⟩ : ∃ e, es[a]? = some e := ⟨_, get_lt hal⟩
        by_cases hid : e.id < p.id
        · (conv => whnf); repeat' ((first | intro g | refine Wit.mk _ (map_get hea rfl) ?_ | refine st ?_ | (first | refine b1 ?_ ?_ | refine b2 ?_ ?_ | refine Br.mk ?_ ?_) <;> intro hc | exact rfl) <;> conv => whnf)
          refine NxtS.mk (a + 1) (by first | omega | (dsimp only; omega)) ⟨(by first | omega | (dsimp only; omega)), fun i x hi hx => ?_⟩ (by (refine ⟨?_, ?_⟩ <;> repeat' (first | exact True.intro | refine ai ?_ | refine And.intro ?_ ?_)))
          by_cases e1 : i = a
          · subst e1; rw [hea] at hx; injection hx with hx; subst hx; exact hid
          · exact hbef i x (by omega) hx
        · have hidne : p.id < e.id := by
            rcases Int.lt_trichotomy e.id p.id with h | h | h
            · exact absurd h hid
            · obtain ⟨j, hj, hj2⟩ := evList_id (hes.mem_iff.1 (List.mem_of_getElem? hea))
              rw [h, hf] at hj2
              omega
            · exact h
          (conv => whnf); repeat' ((first | intro g | refine Wit.mk _ (map_get hea rfl) ?_ | refine Wit.mk _ (window_map _ _ _ _) ?_ | refine CallS.mk _ (hco) ?_ | refine st ?_ | (first | refine b1 ?_ ?_ | refine b2 ?_ ?_ | refine Br.mk ?_ ?_) <;> intro hc | exact rfl) <;> conv => whnf)
          refine NxtS.mk (k + 1, es.take a ++ ⟨4, if 1 < costP m.places p.id o.id then costP m.places p.id o.id else 1, p.id, o.id, 0⟩ :: es.drop a, g) (by first | omega | (dsimp only; omega)) ⟨(by first | omega | (dsimp only; omega)), ?_, ins_sorted hsrt hbef (fun x hx => ?_) ha⟩ ?_
          · rw [hs]; exact ins_perm.trans (hes.append_right _)
          · rw [hea] at hx; injection hx with hx; subst hx; exact hidne
          · (refine ⟨?_, ?_⟩ <;> repeat' (first | exact True.intro | refine ai ?_ | refine And.intro ?_ ?_))
            all_goals (conv => whnf)
            all_goals first | (simp [List.take_of_length_le]; done) | (simp [List.take_of_length_le]; rfl)
      · have : a = es.length := by omega
        subst this
        (conv => whnf); repeat' ((first | intro g | refine Wit.mk _ (window_map _ _ _ _) ?_ | refine CallS.mk _ (hco) ?_ | refine st ?_ | (first | refine b1 ?_ ?_ | refine b2 ?_ ?_ | refine Br.mk ?_ ?_) <;> intro hc | exact rfl) <;> conv => whnf)
        refine NxtS.mk (k + 1, es.take es.length ++ ⟨4, if 1 < costP m.places p.id o.id then costP m.places p.id o.id else 1, p.id, o.id, 0⟩ :: es.drop es.length, g) (by first | omega | (dsimp only; omega)) ⟨(by first | omega | (dsimp only; omega)), ?_, ins_sorted hsrt hbef (fun x hx => ?_) (Nat.le_refl _)⟩ ?_
        · rw [hs]; exact ins_perm.trans (hes.append_right _)
        · simp at hx
        · (refine ⟨?_, ?_⟩ <;> repeat' (first | exact True.intro | refine ai ?_ | refine And.intro ?_ ?_))
          all_goals (conv => whnf)
          all_goals first | (simp [List.take_of_length_le]; done) | (simp [List.take_of_length_le]; rfl)
  · have : k = m.places.length := by omega
    subst this
    (conv => whnf); repeat' ((first | intro g | refine Wit.mk _ (win_all rfl) ?_ | refine st ?_ | (first | refine b1 ?_ ?_ | refine b2 ?_ ?_ | refine Br.mk ?_ ?_) <;> intro hc | exact rfl) <;> conv => whnf)
    all_goals exact ⟨es, hes, hsrt, rfl⟩
end
end Go.AM

set_option maxRecDepth 20000
namespace Go.AM

theorem cloneE_ev (l : List Edge) (h : l.length < 1000000) : Ev E 28 [.lit 4 (l.map Edge.v)] ⟨.own 4 (l.map Edge.v), []⟩ :=
  Ev.ext (by rw [X_28]; simp [cloneV]; omega)
theorem cloneF_ev (l : List Face) (h : l.length < 1000000) : Ev E 29 [.lit 5 (l.map Face.v)] ⟨.own 5 (l.map Face.v), []⟩ :=
  Ev.ext (by rw [X_29]; simp [cloneV]; omega)
theorem cloneW_ev (l : List Way) (h : l.length < 1000000) : Ev E 30 [.lit 8 (l.map Way.v)] ⟨.own 8 (l.map Way.v), []⟩ :=
  Ev.ext (by rw [X_30]; simp [cloneV]; omega)
theorem cloneP_ev (l : List Place) (h : l.length < 1000000) : Ev E 31 [.lit 7 (l.map Place.v)] ⟨.own 7 (l.map Place.v), []⟩ :=
  Ev.ext (by rw [X_31]; simp [cloneV]; omega)
theorem clonePt_ev (l : List Pt) (h : l.length < 1000000) : Ev E 32 [ptsV l] ⟨.own 2 (l.map Pt.v), []⟩ :=
  Ev.ext (by rw [X_32]; simp [cloneV, ptsV]; omega)

/-- lists that are not too long -/
structure GMap.Fit (m : GMap) : Prop where
  e : m.edges.length < 1000000
  f : m.faces.length < 1000000
  w : m.ways.length < 1000000
  p : m.places.length < 1000000
  el : ∀ e ∈ m.edges, e.line.length < 1000000
  wl : ∀ w ∈ m.ways, w.line.length < 1000000

def orS (a b : Str) : Str := if a = [] then b else a
theorem orS_ev (a b : Str) : Ev E 17 [.lit 1 [.str a, .str b]] ⟨.str (orS a b), []⟩ := by
  refine Ev.of_s' E_17 (X_17 _) rfl ?_
  (conv => whnf); repeat' ((first | intro g | refine st ?_ | (first | refine b1 ?_ ?_ | refine b2 ?_ ?_ | refine Br.mk ?_ ?_) <;> intro hc | exact rfl) <;> conv => whnf)
  refine LoopS.by (fun i : Nat => ⟨[(3, .str []), (6, .lit 1 [.str a, .str b]), (7, vnat 2), (8, vnat i)], []⟩) (fun i => i ≤ 2 ∧ (1 ≤ i → a = []) ∧ (2 ≤ i → b = [])) (fun i => 2 - i) 0 (by (refine ⟨?_, ?_⟩ <;> repeat' (first | exact True.intro | refine ai ?_ | refine And.intro ?_ ?_))) ?_ ?_
  · simp
  rintro i ⟨hi, h1, h2⟩
  rcases (by omega : i = 0 ∨ i = 1 ∨ i = 2) with rfl | rfl | rfl
  · (conv => whnf); repeat' ((first | intro g | refine st ?_ | (first | refine b1 ?_ ?_ | refine b2 ?_ ?_ | refine Br.mk ?_ ?_) <;> intro hc | exact rfl) <;> conv => whnf)
    · simp [orS, hc]
    · refine NxtS.mk (1) (by first | omega | (dsimp only; omega)) ?_ (by (refine ⟨?_, ?_⟩ <;> repeat' (first | exact True.intro | refine ai ?_ | refine And.intro ?_ ?_)))
      exact ⟨by omega, fun _ => by simpa using hc, fun h => by omega⟩
  · have ha := h1 (by omega)
    (conv => whnf); repeat' ((first | intro g | refine st ?_ | (first | refine b1 ?_ ?_ | refine b2 ?_ ?_ | refine Br.mk ?_ ?_) <;> intro hc | exact rfl) <;> conv => whnf)
    · simp [orS, ha]
    · refine NxtS.mk (2) (by first | omega | (dsimp only; omega)) ?_ (by (refine ⟨?_, ?_⟩ <;> repeat' (first | exact True.intro | refine ai ?_ | refine And.intro ?_ ?_)))
      exact ⟨by omega, fun _ => ha, fun _ => by simpa using hc⟩
  · have ha := h1 (by omega)
    have hb := h2 (by omega)
    (conv => whnf); repeat' ((first | intro g | refine st ?_ | (first | refine b1 ?_ ?_ | refine b2 ?_ ?_ | refine Br.mk ?_ ?_) <;> intro hc | exact rfl) <;> conv => whnf)
    all_goals simp [orS, ha, hb]

theorem copied_ev {m : GMap} (h : m.Fit) : Ev E 16 [m.v] ⟨.agg [.own 4 (m.edges.map Edge.v), .own 5 (m.faces.map Face.v), .own 8 (m.ways.map Way.v), .own 7 (m.places.map Place.v)], []⟩ := by
  have hle := h.e
  have hlw := h.w
  have c1 := cloneE_ev m.edges h.e
  have c2 := cloneF_ev m.faces h.f
  have c3 := cloneW_ev m.ways h.w
  have c4 := cloneP_ev m.places h.p
  refine Ev.of_s' E_16 (X_16 _) rfl ?_
  (conv => whnf); repeat' ((first | intro g | refine CallS.mk _ (c1) ?_ | refine CallS.mk _ (c2) ?_ | refine CallS.mk _ (c3) ?_ | refine CallS.mk _ (c4) ?_ | refine st ?_ | (first | refine b1 ?_ ?_ | refine b2 ?_ ?_ | refine Br.mk ?_ ?_) <;> intro hc | exact rfl) <;> conv => whnf)
  rename_i g1 g2 gE gF gW gP
  have hE : ∀ {l : List Edge} {i : Nat} {x : Edge}, l[i]? = some x → (l.map Edge.v).set (i : Int).toNat (.agg [vi x.id, .lit 2 (x.line.map Pt.v), vi x.left, vi x.right]) = l.map Edge.v := fun h => set_same h
  have hW : ∀ {l : List Way} {i : Nat} {x : Way}, l[i]? = some x → (l.map Way.v).set (i : Int).toNat (.agg [vi x.id, .lit 2 (x.line.map Pt.v), vi x.level, .str x.cls, .str x.name, .bool x.stairs, vi x.weight, vi x.dist]) = l.map Way.v := fun h => set_same h
  refine LoopS.by (fun (i : Nat) => ⟨[(2, .ptr 48 g2 0 0), (3, .ptr 64 g 0 0), (21, vnat (m.edges.map Edge.v).length), (22, vnat i)],
      [(64, ⟨g, 4, false, false, some [.agg [.sl 144 gE 0 (m.edges.map Edge.v).length, .sl 192 gF 0 (m.faces.map Face.v).length, .sl 240 gW 0 (m.ways.map Way.v).length, .sl 288 gP 0 (m.places.map Place.v).length]]⟩),
       (48, ⟨g2, 4, false, false, some [.agg [.lit 4 [], .lit 5 [], .lit 8 [], .lit 7 []]]⟩),
       (144, ⟨gE, 4, true, false, some (m.edges.map Edge.v)⟩), (192, ⟨gF, 5, true, false, some (m.faces.map Face.v)⟩), (240, ⟨gW, 8, true, false, some (m.ways.map Way.v)⟩), (288, ⟨gP, 7, true, false, some (m.places.map Place.v)⟩)]⟩)
    (fun i => i ≤ m.edges.length) (fun i => m.edges.length - i) 0 (by (refine ⟨?_, ?_⟩ <;> repeat' (first | exact True.intro | refine ai ?_ | refine And.intro ?_ ?_))) (by simp) ?_
  rintro i hi
  by_cases hlt : i < m.edges.length
  · obtain ⟨e, he⟩ : ∃ e, m.edges[i]? = some e := ⟨_, get_lt hlt⟩
    have hcl := clonePt_ev e.line (h.el e (List.mem_of_getElem? he))
    (conv => whnf); repeat' ((first | intro g | refine Wit.mk _ (map_get he rfl) ?_ | refine CallS.mk _ (hcl) ?_ | refine st ?_ | (first | refine b1 ?_ ?_ | refine b2 ?_ ?_ | refine Br.mk ?_ ?_) <;> intro hc | exact rfl) <;> conv => whnf)
    have e1 : (⟨gE, 4, true, false, some ((m.edges.map Edge.v).set (i : Int).toNat (.agg [vi e.id, .lit 2 (e.line.map Pt.v), vi e.left, vi e.right]))⟩ : Obj) = ⟨gE, 4, true, false, some (m.edges.map Edge.v)⟩ := by rw [hE he]
    exact NxtS.mk (i + 1) (by first | omega | (dsimp only; omega)) (by omega) (by (refine ⟨?_, ?_⟩ <;> repeat' (first | exact True.intro | refine And.intro (e1) ?_ | refine ai ?_ | refine And.intro ?_ ?_)))
  obtain rfl : i = m.edges.length := by omega
  (conv => whnf); repeat' ((first | intro g | refine st ?_ | (first | refine b1 ?_ ?_ | refine b2 ?_ ?_ | refine Br.mk ?_ ?_) <;> intro hc | exact rfl) <;> conv => whnf)
  refine LoopS.by (fun (i : Nat) => ⟨[(2, .ptr 48 g2 0 0), (3, .ptr 64 g 0 0), (40, vnat (m.ways.map Way.v).length), (41, vnat i)],
      [(64, ⟨g, 4, false, false, some [.agg [.sl 144 gE 0 (m.edges.map Edge.v).length, .sl 192 gF 0 (m.faces.map Face.v).length, .sl 240 gW 0 (m.ways.map Way.v).length, .sl 288 gP 0 (m.places.map Place.v).length]]⟩),
       (48, ⟨g2, 4, false, false, some [.agg [.lit 4 [], .lit 5 [], .lit 8 [], .lit 7 []]]⟩),
       (144, ⟨gE, 4, true, false, some (m.edges.map Edge.v)⟩), (192, ⟨gF, 5, true, false, some (m.faces.map Face.v)⟩), (240, ⟨gW, 8, true, false, some (m.ways.map Way.v)⟩), (288, ⟨gP, 7, true, false, some (m.places.map Place.v)⟩)]⟩)
    (fun i => i ≤ m.ways.length) (fun i => m.ways.length - i) 0 (by (refine ⟨?_, ?_⟩ <;> repeat' (first | exact True.intro | refine ai ?_ | refine And.intro ?_ ?_))) (by simp) ?_
  rintro i hi
  by_cases hlt : i < m.ways.length
  · obtain ⟨e, he⟩ : ∃ e, m.ways[i]? = some e := ⟨_, get_lt hlt⟩
    have hcl := clonePt_ev e.line (h.wl e (List.mem_of_getElem? he))
    (conv => whnf); repeat' ((first | intro g | refine Wit.mk _ (map_get he rfl) ?_ | refine CallS.mk _ (hcl) ?_ | refine st ?_ | (first | refine b1 ?_ ?_ | refine b2 ?_ ?_ | refine Br.mk ?_ ?_) <;> intro hc | exact rfl) <;> conv => whnf)
    have e1 : (⟨gW, 8, true, false, some ((m.ways.map Way.v).set (i : Int).toNat (.agg [vi e.id, .lit 2 (e.line.map Pt.v), vi e.level, .str e.cls, .str e.name, .bool e.stairs, vi e.weight, vi e.dist]))⟩ : Obj) = ⟨gW, 8, true, false, some (m.ways.map Way.v)⟩ := by rw [hW he]
    exact NxtS.mk (i + 1) (by first | omega | (dsimp only; omega)) (by omega) (by (refine ⟨?_, ?_⟩ <;> repeat' (first | exact True.intro | refine And.intro (e1) ?_ | refine ai ?_ | refine And.intro ?_ ?_)))
  obtain rfl : i = m.ways.length := by omega
  (conv => whnf); repeat' ((first | intro g | refine Wit.mk _ (win_self rfl) ?_ | refine st ?_ | (first | refine b1 ?_ ?_ | refine b2 ?_ ?_ | refine Br.mk ?_ ?_) <;> intro hc | exact rfl) <;> conv => whnf)

theorem delete_ev {l : List Place} {i : Nat} (hi : i < l.length) (h : l.length < 1000000) : Ev E 18 [.msl 7 (l.map Place.v) 0 l.length, vnat i, vi (IntKind.i64.wrap ((i : Int) + 1))] ⟨.sl 0 0 0 (l.length - 1), [(0, (l.eraseIdx i).map Place.v ++ [(Place.mk 0 0 0 [] [] 0 0).v])]⟩ := by
  have hw : IntKind.i64.wrap ((i : Int) + 1) = ((i + 1 : Nat) : Int) := (wrap64 (by omega) (by omega)).trans (by omega)
  rw [hw]
  refine Ev.of_s' E_18 (X_18 _) rfl ?_
  have hwin : window (l.map Place.v) (0 + ((i + 1 : Nat) : Int).toNat) (l.length - ((i + 1 : Nat) : Int).toNat) = (l.drop (i + 1)).map Place.v := by
    rw [window_map]
    congr 1
    rw [List.take_of_length_le (by simp)]
    simp
  (conv => whnf); repeat' ((first | intro g | refine Need.mk (by first | ((and_intros <;> first | rfl | exact arePure_overwrite (arePure_overwrite (Place.pures _) (Place.pures _)) (arePure_replicate rfl) | exact arePure_win (arePure_overwrite (arePure_overwrite (Place.pures _) (Place.pures _)) (arePure_replicate rfl)) | (simp only [overwrite, window, List.length_map, List.length_append, List.length_cons, List.length_nil, List.length_take, List.length_drop]; omega) | omega)) | fail) ?_ | refine Wit.mk _ (hwin) ?_ | refine st ?_ | (first | refine b1 ?_ ?_ | refine b2 ?_ ?_ | refine Br.mk ?_ ?_) <;> intro hc | exact rfl) <;> conv => whnf)
  obtain ⟨A, x, B, rfl, hA⟩ : ∃ A x B, l = A ++ x :: B ∧ A.length = i := ⟨l.take i, l[i], l.drop (i + 1), by simp, by simp; omega⟩
  have e1 : (A ++ x :: B).drop (i + 1) = B := by
    rw [← hA]; simp [List.drop_append]
  have e2 : (A ++ x :: B).eraseIdx i = A ++ B := by
    rw [← hA]; simp [List.eraseIdx_append_of_length_le]
  have e3 : ((i : Int).toNat - 0 + ((B).map Place.v).length) = A.length + B.length := by simp; omega
  rw [e1, e2, e3]
  have e4 : ((A.length + B.length : Nat) : Int).toNat = A.length + B.length := by omega
  have e5 : (((A ++ x :: B).length : Nat) : Int).toNat - (A.length + B.length) = 1 := by simp; omega
  have e6 : (A ++ x :: B).length - 1 = A.length + B.length := by simp
  rw [e4, e5, e6]
  subst hA
  show (⟨V.sl 0 0 0 _, [(0, _)]⟩ : Res) = _
  congr 3
  simp [overwrite, List.take_append, List.drop_append]
  rw [List.take_of_length_le (by simp), List.drop_eq_nil_of_le (by simp; omega), List.drop_eq_nil_of_le (by simp; omega), List.drop_eq_nil_of_le (by simp; omega), List.drop_eq_nil_of_le (by simp; omega)]
  rfl

def joined (a b : Place) : Place := { b with weight := if 255 < w64 (b.weight + a.weight) then 255 else w64 (b.weight + a.weight), name := orS b.name a.name }
/-- what becomes of the places -/
def applyPs (ps : List Place) (place into : Int) : List Place :=
  match ps[(findP ps place).toNat]?, ps[(findP ps into).toNat]? with
  | some a, some b => (ps.set (findP ps into).toNat (joined a b)).eraseIdx (findP ps place).toNat
  | _, _ => []
def GMap.zero : GMap := ⟨[], [], [], []⟩

set_option maxHeartbeats 2000000 in
theorem apply_ev {m : GMap} (h : m.Fit) (place into : Int) : Ev E 7 [m.v, vi place, vi into] ⟨if canP m.places place into = 0 then
      .tuple [.agg [.own 4 (m.edges.map Edge.v), .own 5 (m.faces.map Face.v), .own 8 (m.ways.map Way.v), .own 7 ((applyPs m.places place into).map Place.v)], vi 0]
    else .tuple [GMap.zero.v, vi (canP m.places place into)], []⟩ := by
  have hcan := can_ev h.p place into
  have hboth := both_ev h.p place into
  by_cases hc0 : canP m.places place into = 0
  case neg =>
    rw [if_neg hc0]
    refine Ev.of_s' E_7 (X_7 _) rfl ?_
    (conv => whnf); repeat' ((first | intro g | refine CallS.mk _ (hcan) ?_ | refine st ?_ | (first | refine b1 ?_ ?_ | refine b2 ?_ ?_ | refine Br.mk ?_ ?_) <;> intro hc | exact rfl) <;> conv => whnf)
  rw [if_pos hc0]
  rw [hc0] at hcan
  rcases find_cases m.places place with h1 | ⟨i, a, h1, ha, hia⟩
  · exact absurd hc0 (by simp [canP, h1])
  rcases find_cases m.places into with h2 | ⟨k, b, h2, hb, hkb⟩
  · exact absurd hc0 (by simp [canP, h2])
  have hcop := copied_ev h
  rw [h1, h2] at hboth
  have hil : i < m.places.length := (List.getElem?_eq_some_iff.1 ha).1
  have hkl : k < m.places.length := (List.getElem?_eq_some_iff.1 hb).1
  have hik : i ≠ k := by
    intro e; subst e
    rw [ha] at hb; injection hb with hb; subst hb
    have : canPP place into a a = 1 := by simp [canPP, ← hia, ← hkb]
    simp [canP, h1, h2, ha, this] at hc0
  have hp := h.p
  refine Ev.of_s' E_7 (X_7 _) rfl ?_
  have hdel : ∀ v1, Ev E 18 [.msl 7 (((m.places.map Place.v).set (k : Int).toNat v1).set (k : Int).toNat (joined a b).v) 0 (m.places.map Place.v).length, vnat i, vi (IntKind.i64.wrap ((i : Int) + 1))] ⟨.sl 0 0 0 (m.places.length - 1), [(0, ((m.places.set k (joined a b)).eraseIdx i).map Place.v ++ [(Place.mk 0 0 0 [] [] 0 0).v])]⟩ := by
    intro v1
    have := delete_ev (l := m.places.set k (joined a b)) (i := i) (by simpa using hil) (by simpa using hp)
    rw [List.set_set, ← List.map_set]
    simpa using this
  have hle : m.places.length - 1 = ((m.places.set k (joined a b)).eraseIdx i).length := by simp [List.length_eraseIdx, hil]
  have hap : applyPs m.places place into = (m.places.set k (joined a b)).eraseIdx i := by simp [applyPs, h1, h2, ha, hb]
  rw [hap]
  (conv => whnf); repeat' ((first | intro g | refine Wit.mk _ (map_get ha rfl) ?_ | refine Wit.mk _ (map_get hb rfl) ?_ | refine Wit.mk _ (get_set (map_get hb rfl)) ?_ | refine Wit.mk _ (get_set (get_set (map_get hb rfl))) ?_ | refine Wit.mk _ (win_pre hle) ?_ | refine Wit.mk _ (win_all (by simp)) ?_ | refine CallS.mk _ (hcan) ?_ | refine CallS.mk _ (hboth) ?_ | refine CallS.mk _ (hcop) ?_ | refine CallS.mk _ (orS_ev _ _) ?_ | refine CallS.mk _ (hdel _) ?_ | refine st ?_ | (first | refine b1 ?_ ?_ | refine b2 ?_ ?_ | refine Br.mk ?_ ?_) <;> intro hc | exact rfl) <;> conv => whnf)
  all_goals trace_state
end Go.AM

set_option maxRecDepth 20000
namespace Go.AM

theorem erase_skip {α : Type} {L : List α} {i n : Nat} (hi : n = i) (hl : n < L.length) : (L.take (n + 1)).eraseIdx i = (L.take n).eraseIdx i := by
  subst hi
  have hn : (L.take n).length = n := by simp; omega
  rw [List.take_succ_eq_append_getElem hl, List.eraseIdx_append_of_length_le (by omega), hn, Nat.sub_self, List.eraseIdx_of_length_le (l := L.take n) (by omega)]
  simp
theorem erase_keep {α : Type} {L : List α} {i n : Nat} {x : α} (hi : n ≠ i) (hx : L[n]? = some x) : (L.take (n + 1)).eraseIdx i = (L.take n).eraseIdx i ++ [x] := by
  obtain ⟨hl, rfl⟩ := List.getElem?_eq_some_iff.1 hx
  rw [List.take_succ_eq_append_getElem hl]
  by_cases h : i < n
  · rw [List.eraseIdx_append_of_lt_length (by simp; omega)]
  · have hn : (L.take n).length = n := by simp; omega
    rw [List.eraseIdx_of_length_le (l := L.take n ++ [L[n]]) (by simp [hn]; omega), List.eraseIdx_of_length_le (l := L.take n) (by omega)]

def mapParts (m : GMap) (pv : V) : V := .agg [.lit 4 (m.edges.map Edge.v), .lit 5 (m.faces.map Face.v), .lit 8 (m.ways.map Way.v), pv]

set_option maxHeartbeats 4000000 in
theorem rapply_ev {m : GMap} (h : m.Fit) (place into : Int) : Ev E 88 [m.v, vi place, vi into] ⟨if canP m.places place into = 0 then
      .tuple [mapParts m (.own 7 ((applyPs m.places place into).map Place.v)), vi 0]
    else .tuple [GMap.zero.v, vi (canP m.places place into)], []⟩ := by
  have hcan := rcan_ev h.p place into
  have hp1 := rplace_ev h.p place
  have hp2 := rplace_ev h.p into
  by_cases hc0 : canP m.places place into = 0
  case neg =>
    rw [if_neg hc0]
    refine Ev.of_s' E_88 (X_88 _) rfl ?_
    (conv => whnf); repeat' ((first | intro g | refine CallS.mk _ (hcan) ?_ | refine st ?_ | (first | refine b1 ?_ ?_ | refine b2 ?_ ?_ | refine Br.mk ?_ ?_) <;> intro hc | exact rfl) <;> conv => whnf)
  rw [if_pos hc0]
  rw [hc0] at hcan
  rcases find_cases m.places place with h1 | ⟨i, a, h1, ha, hia⟩
  · exact absurd hc0 (by simp [canP, h1])
  rcases find_cases m.places into with h2 | ⟨k, b, h2, hb, hkb⟩
  · exact absurd hc0 (by simp [canP, h2])
  rw [h1] at hp1
  rw [h2] at hp2
  have hil : i < m.places.length := (List.getElem?_eq_some_iff.1 ha).1
  have hkl : k < m.places.length := (List.getElem?_eq_some_iff.1 hb).1
  have hik : i ≠ k := by
    intro e; subst e
    rw [ha] at hb; injection hb with hb; subst hb
    have : canPP place into a a = 1 := by simp [canPP, ← hia, ← hkb]
    simp [canP, h1, h2, ha, this] at hc0
  have hp := h.p
  have hap : applyPs m.places place into = (m.places.set k (joined a b)).eraseIdx i := by simp [applyPs, h1, h2, ha, hb]
  rw [hap]
  have hj : joined a b = { b with weight := if 255 < IntKind.i64.wrap (a.weight + b.weight) then 255 else IntKind.i64.wrap (a.weight + b.weight), name := if b.name = [] then a.name else b.name } := by
    unfold joined orS w64; rw [Int.add_comm]
  generalize hb' : joined a b = b' at hj
  generalize hL : m.places.set k b' = L
  have hLl : L.length = m.places.length := by rw [← hL]; simp
  have hLk : L[k]? = some b' := by rw [← hL]; simp [hkl]
  have hLn : ∀ n, n ≠ k → L[n]? = m.places[n]? := fun n hn => by rw [← hL, List.getElem?_set_ne (Ne.symm hn)]
  refine Ev.of_s' E_88 (X_88 _) rfl ?_
  (conv => whnf); repeat' ((first | intro g | refine Wit.mk _ (map_get ha rfl) ?_ | refine Wit.mk _ (map_get hb rfl) ?_ | refine CallS.mk _ (hcan) ?_ | refine CallS.mk _ (hp1) ?_ | refine CallS.mk _ (hp2) ?_ | refine st ?_ | (first | refine b1 ?_ ?_ | refine b2 ?_ ?_ | refine Br.mk ?_ ?_) <;> intro hc | exact rfl) <;> conv => whnf)
  all_goals
    rename_i g3 g6 g11
    first | rw [if_pos hc] at hj | rw [if_neg hc] at hj
    refine LoopS.by (fun ((n, og) : Nat × Option Nat) => ⟨[(3, .ptr 64 g3 0 0), (6, .ptr 112 g6 0 0), (9, vnat i), (10, vnat k), (11, .ptr 192 g11 0 0), (12, .ptr 208 g 0 0), (13, vnat n)],
      match og with
      | none => [(64, ⟨g3, 4, false, false, some [m.v]⟩), (112, ⟨g6, 4, false, false, some [GMap.zero.v]⟩), (192, ⟨g11, 7, false, false, some [b'.v]⟩), (208, ⟨g, 4, false, false, some [mapParts m .nils]⟩)]
      | some g' => [(64, ⟨g3, 4, false, false, some [m.v]⟩), (112, ⟨g6, 4, false, false, some [GMap.zero.v]⟩), (192, ⟨g11, 7, false, false, some [b'.v]⟩), (208, ⟨g, 4, false, false, some [mapParts m (.sl 213 g' 0 ((L.take n).eraseIdx i).length)]⟩), (213, ⟨g', 7, true, false, some (((L.take n).eraseIdx i).map Place.v)⟩)]⟩)
      (fun (n, og) => n ≤ m.places.length ∧ (og = none → (L.take n).eraseIdx i = [])) (fun (n, _) => m.places.length - n) (0, none) ?_ ⟨by simp, by simp⟩ ?_
    · (refine ⟨?_, ?_⟩ <;> repeat' (first | exact True.intro | refine And.intro ((by (conv => whnf); rw [hj]; rfl)) ?_ | refine ai ?_ | refine And.intro ?_ ?_))
    rintro ⟨n, og⟩ ⟨hn, hog⟩
    try dsimp only at hn hog
    have hAl : ((L.take n).eraseIdx i).length ≤ n := Nat.le_trans (List.length_eraseIdx_le _ _) (by rw [List.length_take]; omega)
    by_cases hlt : n < m.places.length
    · have hnw : IntKind.i64.wrap ((n : Int) + 1) = ((n + 1 : Nat) : Int) := (wrap64 (by omega) (by omega)).trans (by omega)
      by_cases hnk : n = k
      · subst hnk
        have hnext := erase_keep (i := i) (Ne.symm hik) hLk
        cases og with
        | none =>
          have hA := hog rfl
          rw [hA] at hnext
          (conv => whnf); repeat' ((first | intro g | refine st ?_ | (first | refine b1 ?_ ?_ | refine b2 ?_ ?_ | refine Br.mk ?_ ?_) <;> intro hc | exact rfl) <;> conv => whnf)
          refine NxtS.mk (n + 1, some g) (by first | omega | (dsimp only; omega)) ⟨(by first | omega | (dsimp only; omega)), by simp⟩ ?_
          (refine ⟨?_, ?_⟩ <;> repeat' (first | exact True.intro | refine And.intro ((by (conv => whnf); rw [hnext]; rfl)) ?_ | refine ai ?_ | refine And.intro ?_ ?_))
        | some g' =>
          (conv => whnf); repeat' ((first | intro g | refine st ?_ | (first | refine b1 ?_ ?_ | refine b2 ?_ ?_ | refine Br.mk ?_ ?_) <;> intro hc | exact rfl) <;> conv => whnf)
          refine NxtS.mk (n + 1, some g) (by first | omega | (dsimp only; omega)) ⟨(by first | omega | (dsimp only; omega)), by simp⟩ ?_
          (refine ⟨?_, ?_⟩ <;> repeat' (first | exact True.intro | refine And.intro ((by (conv => whnf); rw [hnext]; simp [mapParts])) ?_ | refine ai ?_ | refine And.intro ?_ ?_))
      by_cases hni : n = i
      · have hnext := erase_skip hni (L := L) (by omega)
        cases og with
        | none =>
          have hA := hog rfl
          rw [hA] at hnext
          (conv => whnf); repeat' ((first | intro g | refine st ?_ | (first | refine b1 ?_ ?_ | refine b2 ?_ ?_ | refine Br.mk ?_ ?_) <;> intro hc | exact rfl) <;> conv => whnf)
          exact NxtS.mk (n + 1, none) (by first | omega | (dsimp only; omega)) ⟨(by first | omega | (dsimp only; omega)), fun _ => hnext⟩ (by (refine ⟨?_, ?_⟩ <;> repeat' (first | exact True.intro | refine ai ?_ | refine And.intro ?_ ?_)))
        | some g' =>
          (conv => whnf); repeat' ((first | intro g | refine st ?_ | (first | refine b1 ?_ ?_ | refine b2 ?_ ?_ | refine Br.mk ?_ ?_) <;> intro hc | exact rfl) <;> conv => whnf)
          refine NxtS.mk (n + 1, some g') (by first | omega | (dsimp only; omega)) ⟨(by first | omega | (dsimp only; omega)), by simp⟩ ?_
          (refine ⟨?_, ?_⟩ <;> repeat' (first | exact True.intro | refine And.intro ((by (conv => whnf); rw [hnext])) ?_ | refine ai ?_ | refine And.intro ?_ ?_))
      obtain ⟨x, hx⟩ : ∃ x, m.places[n]? = some x := ⟨_, get_lt hlt⟩
      have hnext := erase_keep (i := i) hni (by rw [hLn n hnk]; exact hx)
      cases og with
      | none =>
        have hA := hog rfl
        rw [hA] at hnext
        (conv => whnf); repeat' ((first | intro g | refine Wit.mk _ (map_get hx rfl) ?_ | refine st ?_ | (first | refine b1 ?_ ?_ | refine b2 ?_ ?_ | refine Br.mk ?_ ?_) <;> intro hc | exact rfl) <;> conv => whnf)
        refine NxtS.mk (n + 1, some g) (by first | omega | (dsimp only; omega)) ⟨(by first | omega | (dsimp only; omega)), by simp⟩ ?_
        (refine ⟨?_, ?_⟩ <;> repeat' (first | exact True.intro | refine And.intro ((by (conv => whnf); rw [hnext]; rfl)) ?_ | refine ai ?_ | refine And.intro ?_ ?_))
      | some g' =>
        (conv => whnf); repeat' ((first | intro g | refine Wit.mk _ (map_get hx rfl) ?_ | refine st ?_ | (first | refine b1 ?_ ?_ | refine b2 ?_ ?_ | refine Br.mk ?_ ?_) <;> intro hc | exact rfl) <;> conv => whnf)
        refine NxtS.mk (n + 1, some g) (by first | omega | (dsimp only; omega)) ⟨(by first | omega | (dsimp only; omega)), by simp⟩ ?_
        (refine ⟨?_, ?_⟩ <;> repeat' (first | exact True.intro | refine And.intro ((by (conv => whnf); rw [hnext]; simp [mapParts])) ?_ | refine ai ?_ | refine And.intro ?_ ?_))
    · obtain rfl : n = m.places.length := by omega
      have hfull : L.take m.places.length = L := List.take_of_length_le (by omega)
      rw [hfull] at hog hAl
      cases og with
      | none =>
        have := hog rfl
        have h9 := congrArg List.length this
        rw [List.length_eraseIdx, if_pos (by omega), List.length_nil] at h9
        omega
      | some g' =>
        (conv => whnf); repeat' ((first | intro g | refine Wit.mk _ (win_self (by simp)) ?_ | refine st ?_ | (first | refine b1 ?_ ?_ | refine b2 ?_ ?_ | refine Br.mk ?_ ?_) <;> intro hc | exact rfl) <;> conv => whnf)
        rw [hfull]; rfl

/-! what is the same as itself -/
theorem sameEv_ev {l : List Event} (h : l.length < 1000000) : Ev E 10 [.lit 5 (l.map Event.v), .lit 5 (l.map Event.v)] ⟨.bool true, []⟩ := by
  refine Ev.of_s' E_10 (X_10 _) rfl ?_
  (conv => whnf); repeat' ((first | intro g | refine st ?_ | (first | refine b1 ?_ ?_ | refine b2 ?_ ?_ | refine Br.mk ?_ ?_) <;> intro hc | exact rfl) <;> conv => whnf)
  refine LoopS.by (fun (i : Nat) => ⟨[(0, .lit 5 (l.map Event.v)), (1, .lit 5 (l.map Event.v)), (5, vnat i)], []⟩) (fun i => i ≤ l.length) (fun i => l.length - i) 0 (by (refine ⟨?_, ?_⟩ <;> repeat' (first | exact True.intro | refine ai ?_ | refine And.intro ?_ ?_))) (by simp) ?_
  intro i hi
  (conv => whnf); repeat' ((first | intro g | refine st ?_ | (first | refine b1 ?_ ?_ | refine b2 ?_ ?_ | refine Br.mk ?_ ?_) <;> intro hc | exact rfl) <;> conv => whnf)
  all_goals first | exact NxtS.mk (i + 1) (by first | omega | (dsimp only; omega)) (by omega) (by (refine ⟨?_, ?_⟩ <;> repeat' (first | exact True.intro | refine ai ?_ | refine And.intro ?_ ?_))) | (simp at hc; done) | trace_state
end Go.AM

set_option maxRecDepth 20000
namespace Go.AM
theorem sameLine5_ev {l : List Pt} (h : l.length < 1000000) : Ev E 165 [ptsV l, ptsV l] ⟨.bool true, []⟩ := by
  refine Ev.of_s' E_165 (X_165 _) rfl ?_
  (conv => whnf); repeat' ((first | intro g | refine st ?_ | (first | refine b1 ?_ ?_ | refine b2 ?_ ?_ | refine Br.mk ?_ ?_) <;> intro hc | exact rfl) <;> conv => whnf)
  refine LoopS.by (fun (i : Nat) => ⟨[(0, ptsV l), (1, ptsV l), (5, vnat i)], []⟩) (fun i => i ≤ l.length) (fun i => l.length - i) 0 (by (refine ⟨?_, ?_⟩ <;> repeat' (first | exact True.intro | refine ai ?_ | refine And.intro ?_ ?_))) (by simp) ?_
  intro i hi
  (conv => whnf); repeat' ((first | intro g | refine st ?_ | (first | refine b1 ?_ ?_ | refine b2 ?_ ?_ | refine Br.mk ?_ ?_) <;> intro hc | exact rfl) <;> conv => whnf)
  all_goals first | exact NxtS.mk (i + 1) (by first | omega | (dsimp only; omega)) (by omega) (by (refine ⟨?_, ?_⟩ <;> repeat' (first | exact True.intro | refine ai ?_ | refine And.intro ?_ ?_))) | (simp at hc; done) | trace_state
theorem sameLine10_ev {l : List Pt} (h : l.length < 1000000) : Ev E 125 [ptsV l, ptsV l] ⟨.bool true, []⟩ := by
  refine Ev.of_s' E_125 (X_125 _) rfl ?_
  (conv => whnf); repeat' ((first | intro g | refine st ?_ | (first | refine b1 ?_ ?_ | refine b2 ?_ ?_ | refine Br.mk ?_ ?_) <;> intro hc | exact rfl) <;> conv => whnf)
  refine LoopS.by (fun (i : Nat) => ⟨[(0, ptsV l), (1, ptsV l), (5, vnat i)], []⟩) (fun i => i ≤ l.length) (fun i => l.length - i) 0 (by (refine ⟨?_, ?_⟩ <;> repeat' (first | exact True.intro | refine ai ?_ | refine And.intro ?_ ?_))) (by simp) ?_
  intro i hi
  (conv => whnf); repeat' ((first | intro g | refine st ?_ | (first | refine b1 ?_ ?_ | refine b2 ?_ ?_ | refine Br.mk ?_ ?_) <;> intro hc | exact rfl) <;> conv => whnf)
  all_goals first | exact NxtS.mk (i + 1) (by first | omega | (dsimp only; omega)) (by omega) (by (refine ⟨?_, ?_⟩ <;> repeat' (first | exact True.intro | refine ai ?_ | refine And.intro ?_ ?_))) | (simp at hc; done) | trace_state

theorem sameWay_ev (w : Way) (h : w.line.length < 1000000) : Ev E 126 [w.v, w.v] ⟨.bool true, []⟩ := by
  have hl := sameLine5_ev h
  refine Ev.of_s' E_126 (X_126 _) rfl ?_
  (conv => whnf); repeat' ((first | intro g | refine CallS.mk _ (hl) ?_ | refine st ?_ | (first | refine b1 ?_ ?_ | refine b2 ?_ ?_ | refine Br.mk ?_ ?_) <;> intro hc | exact rfl) <;> conv => whnf)
  all_goals simp

set_option maxHeartbeats 2000000 in
theorem sameMap_ev {m : GMap} (h : m.Fit) : Ev E 89 [m.v, m.v] ⟨.bool true, []⟩ := by
  have he := h.e
  have hf := h.f
  have hw := h.w
  have hp := h.p
  refine Ev.of_s' E_89 (X_89 _) rfl ?_
  (conv => whnf); repeat' ((first | intro g | refine st ?_ | (first | refine b1 ?_ ?_ | refine b2 ?_ ?_ | refine Br.mk ?_ ?_) <;> intro hc | exact rfl) <;> conv => whnf)
  rename_i g1
  refine LoopS.by (fun (i : Nat) => ⟨[(2, .ptr 48 g1 0 0), (3, .ptr 64 g 0 0), (5, vnat i)], [(48, ⟨g1, 4, false, false, some [m.v]⟩), (64, ⟨g, 4, false, false, some [m.v]⟩)]⟩) (fun i => i ≤ m.edges.length) (fun i => m.edges.length - i) 0 (by (refine ⟨?_, ?_⟩ <;> repeat' (first | exact True.intro | refine ai ?_ | refine And.intro ?_ ?_))) (by simp) ?_
  intro i hi
  by_cases hlt : i < m.edges.length
  · obtain ⟨e, hx⟩ : ∃ e, m.edges[i]? = some e := ⟨_, get_lt hlt⟩
    have hl := sameLine10_ev (h.el e (List.mem_of_getElem? hx))
    (conv => whnf); repeat' ((first | intro g | refine Wit.mk _ (map_get hx rfl) ?_ | refine CallS.mk _ (hl) ?_ | refine st ?_ | (first | refine b1 ?_ ?_ | refine b2 ?_ ?_ | refine Br.mk ?_ ?_) <;> intro hc | exact rfl) <;> conv => whnf)
    all_goals first | exact NxtS.mk (i + 1) (by first | omega | (dsimp only; omega)) (by omega) (by (refine ⟨?_, ?_⟩ <;> repeat' (first | exact True.intro | refine ai ?_ | refine And.intro ?_ ?_))) | (simp at hc; done) | trace_state
  obtain rfl : i = m.edges.length := by omega
  (conv => whnf); repeat' ((first | intro g | refine st ?_ | (first | refine b1 ?_ ?_ | refine b2 ?_ ?_ | refine Br.mk ?_ ?_) <;> intro hc | exact rfl) <;> conv => whnf)
  refine LoopS.by (fun (i : Nat) => ⟨[(2, .ptr 48 g1 0 0), (3, .ptr 64 g 0 0), (7, vnat i)], [(48, ⟨g1, 4, false, false, some [m.v]⟩), (64, ⟨g, 4, false, false, some [m.v]⟩)]⟩) (fun i => i ≤ m.faces.length) (fun i => m.faces.length - i) 0 (by (refine ⟨?_, ?_⟩ <;> repeat' (first | exact True.intro | refine ai ?_ | refine And.intro ?_ ?_))) (by simp) ?_
  intro i hi
  by_cases hlt : i < m.faces.length
  · obtain ⟨e, hx⟩ : ∃ e, m.faces[i]? = some e := ⟨_, get_lt hlt⟩
    (conv => whnf); repeat' ((first | intro g | refine Wit.mk _ (map_get hx rfl) ?_ | refine st ?_ | (first | refine b1 ?_ ?_ | refine b2 ?_ ?_ | refine Br.mk ?_ ?_) <;> intro hc | exact rfl) <;> conv => whnf)
    all_goals first | exact NxtS.mk (i + 1) (by first | omega | (dsimp only; omega)) (by omega) (by (refine ⟨?_, ?_⟩ <;> repeat' (first | exact True.intro | refine ai ?_ | refine And.intro ?_ ?_))) | (simp at hc; done) | trace_state
  obtain rfl : i = m.faces.length := by omega
  (conv => whnf); repeat' ((first | intro g | refine st ?_ | (first | refine b1 ?_ ?_ | refine b2 ?_ ?_ | refine Br.mk ?_ ?_) <;> intro hc | exact rfl) <;> conv => whnf)
  refine LoopS.by (fun (i : Nat) => ⟨[(2, .ptr 48 g1 0 0), (3, .ptr 64 g 0 0), (8, vnat i)], [(48, ⟨g1, 4, false, false, some [m.v]⟩), (64, ⟨g, 4, false, false, some [m.v]⟩)]⟩) (fun i => i ≤ m.ways.length) (fun i => m.ways.length - i) 0 (by (refine ⟨?_, ?_⟩ <;> repeat' (first | exact True.intro | refine ai ?_ | refine And.intro ?_ ?_))) (by simp) ?_
  intro i hi
  by_cases hlt : i < m.ways.length
  · obtain ⟨e, hx⟩ : ∃ e, m.ways[i]? = some e := ⟨_, get_lt hlt⟩
    have hl := sameWay_ev e (h.wl e (List.mem_of_getElem? hx))
    (conv => whnf); repeat' ((first | intro g | refine Wit.mk _ (map_get hx rfl) ?_ | refine CallS.mk _ (hl) ?_ | refine st ?_ | (first | refine b1 ?_ ?_ | refine b2 ?_ ?_ | refine Br.mk ?_ ?_) <;> intro hc | exact rfl) <;> conv => whnf)
    all_goals first | exact NxtS.mk (i + 1) (by first | omega | (dsimp only; omega)) (by omega) (by (refine ⟨?_, ?_⟩ <;> repeat' (first | exact True.intro | refine ai ?_ | refine And.intro ?_ ?_))) | (simp at hc; done) | trace_state
  obtain rfl : i = m.ways.length := by omega
  (conv => whnf); repeat' ((first | intro g | refine st ?_ | (first | refine b1 ?_ ?_ | refine b2 ?_ ?_ | refine Br.mk ?_ ?_) <;> intro hc | exact rfl) <;> conv => whnf)
  refine LoopS.by (fun (i : Nat) => ⟨[(2, .ptr 48 g1 0 0), (3, .ptr 64 g 0 0), (10, vnat i)], [(48, ⟨g1, 4, false, false, some [m.v]⟩), (64, ⟨g, 4, false, false, some [m.v]⟩)]⟩) (fun i => i ≤ m.places.length) (fun i => m.places.length - i) 0 (by (refine ⟨?_, ?_⟩ <;> repeat' (first | exact True.intro | refine ai ?_ | refine And.intro ?_ ?_))) (by simp) ?_
  intro i hi
  by_cases hlt : i < m.places.length
  · obtain ⟨e, hx⟩ : ∃ e, m.places[i]? = some e := ⟨_, get_lt hlt⟩
    (conv => whnf); repeat' ((first | intro g | refine Wit.mk _ (map_get hx rfl) ?_ | refine st ?_ | (first | refine b1 ?_ ?_ | refine b2 ?_ ?_ | refine Br.mk ?_ ?_) <;> intro hc | exact rfl) <;> conv => whnf)
    all_goals first | exact NxtS.mk (i + 1) (by first | omega | (dsimp only; omega)) (by omega) (by (refine ⟨?_, ?_⟩ <;> repeat' (first | exact True.intro | refine ai ?_ | refine And.intro ?_ ?_))) | (simp at hc; done) | trace_state
  obtain rfl : i = m.places.length := by omega
  (conv => whnf); repeat' ((first | intro g | refine st ?_ | (first | refine b1 ?_ ?_ | refine b2 ?_ ?_ | refine Br.mk ?_ ?_) <;> intro hc | exact rfl) <;> conv => whnf)
end Go.AM

set_option maxRecDepth 20000
namespace Go.AM

/-- the events of a district, in order -/
theorem events_eq {ps : List Place} {d : Int} {l l' : List Event} (h1 : l.Perm (evList ps d ps.length)) (h2 : l.Pairwise (NotAfter cmpId)) (h3 : l'.Perm (evList ps d ps.length)) (h4 : l'.Pairwise Before) : l = l' := by
  have hne : (evList ps d ps.length).Pairwise (fun a b => a.id ≠ b.id) := by
    simp only [evList]
    rw [List.pairwise_filterMap]
    refine List.Pairwise.imp_of_mem ?_ (List.nodup_range (n := ps.length))
    intro i j hi hj hij b hb b' hb' e
    have e1 := (evAt_id hb).1
    have e2 := (evAt_id hb').1
    rw [e, e2] at e1
    exact hij (by omega)
  have hne' : l.Pairwise (fun a b => a.id ≠ b.id) := (h1.pairwise_iff (fun {a b} h => fun e => h e.symm)).2 hne
  have hb : l.Pairwise Before := by
    refine (h2.and hne').imp ?_
    rintro a b ⟨h, hn⟩
    unfold NotAfter cmpId cmpI at h
    unfold Before
    split at h
    · omega
    · split at h
      · assumption
      · omega
  exact sorted_unique (k := Event.id) hb h4 (h1.trans h3.symm)

structure Pair where
  a : Int
  b : Int
def Pair.v (p : Pair) : V := .agg [vi p.a, vi p.b]

def withPs (m : GMap) (ps : List Place) : GMap := { m with places := ps }
theorem applyPs_len {ps : List Place} {a b : Int} : (applyPs ps a b).length ≤ ps.length := by
  unfold applyPs
  split
  · exact Nat.le_trans (List.length_eraseIdx_le _ _) (by simp)
  · simp

section
variable {m : GMap} (h : m.Fit) (hn : m.places.length ≤ 1000) (hfit : ∀ d, SortFit cmpId (evList m.places d m.places.length))
include h hn hfit
set_option maxHeartbeats 4000000 in
theorem same_ev (raw : Pair) (d : Int) : Ev E 78 [m.v, raw.v, vi d] ⟨.bool true, []⟩ := by
  have hp := h.p
  have hkk : ∀ k, k ≤ m.places.length → k * m.places.length ≤ 1000000 := fun k hk => by
    have := Nat.mul_le_mul (Nat.le_trans hk hn) hn
    omega
  refine Ev.of_s' E_78 (X_78 _) rfl ?_
  (conv => whnf); repeat' ((first | intro g | refine st ?_ | (first | refine b1 ?_ ?_ | refine b2 ?_ ?_ | refine Br.mk ?_ ?_) <;> intro hc | exact rfl) <;> conv => whnf)
  rename_i g64 _ _
  refine LoopS.by (fun ((k, prs, g7) : Nat × List Pair × Nat) => ⟨[(2, vi d), (3, .ptr 64 g64 0 0), (7, .sl 129 g7 0 prs.length), (23, .lit 7 (m.places.map Place.v)), (24, vnat (m.places.map Place.v).length), (25, vnat k)],
      [(64, ⟨g64, 4, false, false, some [m.v]⟩), (129, ⟨g7, 2, true, false, some (prs.map Pair.v)⟩)]⟩)
    (fun (k, prs, _) => k ≤ m.places.length ∧ prs.length = 1 + k * m.places.length) (fun (k, _) => m.places.length - k) (0, [raw], g) (by (refine ⟨?_, ?_⟩ <;> repeat' (first | exact True.intro | refine ai ?_ | refine And.intro ?_ ?_))) ⟨by simp, by simp⟩ ?_
  rintro ⟨k, prs, g7⟩ ⟨hk, hl⟩
  try dsimp only at hk hl
  have hkm := hkk k hk
  by_cases hlt : k < m.places.length
  · obtain ⟨p, hpk⟩ : ∃ p, m.places[k]? = some p := ⟨_, get_lt hlt⟩
    (conv => whnf); repeat' ((first | intro g | refine Wit.mk _ (map_get hpk rfl) ?_ | refine st ?_ | (first | refine b1 ?_ ?_ | refine b2 ?_ ?_ | refine Br.mk ?_ ?_) <;> intro hc | exact rfl) <;> conv => whnf)
    rename_i gp
    refine LoopS.by (fun ((i, prs, g7) : Nat × List Pair × Nat) => ⟨[(2, vi d), (3, .ptr 64 g64 0 0), (7, .sl 129 g7 0 prs.length), (23, .lit 7 (m.places.map Place.v)), (24, vnat (m.places.map Place.v).length), (25, vnat k),
        (9, .ptr 160 g 0 0), (30, .lit 7 (m.places.map Place.v)), (31, vnat (m.places.map Place.v).length), (32, vnat i)],
        [(64, ⟨g64, 4, false, false, some [m.v]⟩), (129, ⟨g7, 2, true, false, some (prs.map Pair.v)⟩), (160, ⟨g, 7, false, false, some [p.v]⟩)]⟩)
      (fun (i, prs, _) => i ≤ m.places.length ∧ prs.length = 1 + k * m.places.length + i) (fun (i, _) => m.places.length - i) (0, prs, g7) (by (refine ⟨?_, ?_⟩ <;> repeat' (first | exact True.intro | refine ai ?_ | refine And.intro ?_ ?_))) ⟨by simp, by simpa using hl⟩ ?_
    rintro ⟨i, prs, g7⟩ ⟨hi, hl⟩
    try dsimp only at hi hl
    by_cases hlti : i < m.places.length
    · obtain ⟨q, hq⟩ : ∃ q, m.places[i]? = some q := ⟨_, get_lt hlti⟩
      (conv => whnf); repeat' ((first | intro g | refine Wit.mk _ (map_get hq rfl) ?_ | refine st ?_ | (first | refine b1 ?_ ?_ | refine b2 ?_ ?_ | refine Br.mk ?_ ?_) <;> intro hc | exact rfl) <;> conv => whnf)
      exact NxtS.mk (i + 1, prs ++ [⟨p.id, q.id⟩], g) (by first | omega | (dsimp only; omega)) ⟨(by first | omega | (dsimp only; omega)), by simp; omega⟩ (by (refine ⟨?_, ?_⟩ <;> repeat' (first | exact True.intro | refine ai ?_ | refine And.intro ?_ ?_)))
    obtain rfl : i = m.places.length := by omega
    (conv => whnf); repeat' ((first | intro g | refine st ?_ | (first | refine b1 ?_ ?_ | refine b2 ?_ ?_ | refine Br.mk ?_ ?_) <;> intro hc | exact rfl) <;> conv => whnf)
    exact NxtS.mk (k + 1, prs, g7) (by first | omega | (dsimp only; omega)) ⟨(by first | omega | (dsimp only; omega)), by rw [Nat.succ_mul]; omega⟩ (by (refine ⟨?_, ?_⟩ <;> repeat' (first | exact True.intro | refine ai ?_ | refine And.intro ?_ ?_)))
  obtain rfl : k = m.places.length := by omega
  have hpl : prs.length < 2000000 := by omega
  (conv => whnf); repeat' ((first | intro g | refine st ?_ | (first | refine b1 ?_ ?_ | refine b2 ?_ ?_ | refine Br.mk ?_ ?_) <;> intro hc | exact rfl) <;> conv => whnf)
  refine LoopS.by (fun (j : Nat) => ⟨[(2, vi d), (3, .ptr 64 g64 0 0), (46, .sl 129 g7 0 prs.length), (47, vnat prs.length), (48, vnat j)],
      [(64, ⟨g64, 4, false, false, some [m.v]⟩), (129, ⟨g7, 2, true, false, some (prs.map Pair.v)⟩)]⟩)
    (fun j => j ≤ prs.length) (fun j => prs.length - j) 0 (by (refine ⟨?_, ?_⟩ <;> repeat' (first | exact True.intro | refine ai ?_ | refine And.intro ?_ ?_))) (by simp) ?_
  intro j hj
  by_cases hltj : j < prs.length
  · obtain ⟨x, hx⟩ : ∃ x, prs[j]? = some x := ⟨_, get_lt hltj⟩
    have a1 := apply_ev h x.a x.b
    have a2 := rapply_ev h x.a x.b
    have a3 := can_ev hp x.a x.b
    have a4 := cost_ev hp x.a x.b
    have a5 := rcost_ev hp x.a x.b
    by_cases hc0 : canP m.places x.a x.b = 0
    · rw [if_pos hc0] at a1 a2
      rw [hc0] at a3
      have hap := applyPs_len (ps := m.places) (a := x.a) (b := x.b)
      have a6 := sameMap_ev (m := withPs m (applyPs m.places x.a x.b)) ⟨h.e, h.f, h.w, by simp only [withPs]; omega, h.el, h.wl⟩
      (conv => whnf); repeat' ((first | intro g | refine Wit.mk _ (map_get hx rfl) ?_ | refine CallS.mk _ (a1) ?_ | refine CallS.mk _ (a2) ?_ | refine CallS.mk _ (a3) ?_ | refine CallS.mk _ (a4) ?_ | refine CallS.mk _ (a5) ?_ | refine CallS.mk _ (a6) ?_ | refine st ?_ | (first | refine b1 ?_ ?_ | refine b2 ?_ ?_ | refine Br.mk ?_ ?_) <;> intro hc | exact rfl) <;> conv => whnf)
      all_goals first | exact NxtS.mk (j + 1) (by first | omega | (dsimp only; omega)) (by omega) (by (refine ⟨?_, ?_⟩ <;> repeat' (first | exact True.intro | refine ai ?_ | refine And.intro ?_ ?_))) | (simp at hc; done) | trace_state
    · rw [if_neg hc0] at a1 a2
      have a6 := sameMap_ev (m := GMap.zero) ⟨by simp [GMap.zero], by simp [GMap.zero], by simp [GMap.zero], by simp [GMap.zero], by simp [GMap.zero], by simp [GMap.zero]⟩
      (conv => whnf); repeat' ((first | intro g | refine Wit.mk _ (map_get hx rfl) ?_ | refine CallS.mk _ (a1) ?_ | refine CallS.mk _ (a2) ?_ | refine CallS.mk _ (a3) ?_ | refine CallS.mk _ (a4) ?_ | refine CallS.mk _ (a5) ?_ | refine CallS.mk _ (a6) ?_ | refine st ?_ | (first | refine b1 ?_ ?_ | refine b2 ?_ ?_ | refine Br.mk ?_ ?_) <;> intro hc | exact rfl) <;> conv => whnf)
      all_goals first | exact NxtS.mk (j + 1) (by first | omega | (dsimp only; omega)) (by omega) (by (refine ⟨?_, ?_⟩ <;> repeat' (first | exact True.intro | refine ai ?_ | refine And.intro ?_ ?_))) | (simp at hc; done) | trace_state
  obtain rfl : j = prs.length := by omega
  (conv => whnf); repeat' ((first | intro g | refine st ?_ | (first | refine b1 ?_ ?_ | refine b2 ?_ ?_ | refine Br.mk ?_ ?_) <;> intro hc | exact rfl) <;> conv => whnf)
  refine LoopS.by (fun (j : Nat) => ⟨[(3, .ptr 64 g64 0 0), (106, .sl 1712 g 0 5), (107, vnat 5), (108, vnat j)],
      [(64, ⟨g64, 4, false, false, some [m.v]⟩), (1712, ⟨g, 1, true, false, some ([d, 0, 1, 2, 3].map vi)⟩)]⟩)
    (fun j => j ≤ 5) (fun j => 5 - j) 0 (by (refine ⟨?_, ?_⟩ <;> repeat' (first | exact True.intro | refine ai ?_ | refine And.intro ?_ ?_))) (by simp) ?_
  intro j hj
  by_cases hltj : j < 5
  · obtain ⟨x, hx⟩ : ∃ x, [d, 0, 1, 2, 3][j]? = some x := ⟨_, get_lt hltj⟩
    obtain ⟨l, b1, b2, b3⟩ := all_ev hp x (hfit x)
    obtain ⟨l', c1, c2, c3⟩ := rall_ev hp x
    obtain rfl := events_eq b1 b2 c1 c2
    have hll := b1.length_eq
    have hel := evList_len m.places x m.places.length
    have a7 := sameEv_ev (l := l) (by omega)
    (conv => whnf); repeat' ((first | intro g | refine Wit.mk _ (map_get hx rfl) ?_ | refine CallS.mk _ (b3) ?_ | refine CallS.mk _ (c3) ?_ | refine CallS.mk _ (a7) ?_ | refine st ?_ | (first | refine b1 ?_ ?_ | refine b2 ?_ ?_ | refine Br.mk ?_ ?_) <;> intro hc | exact rfl) <;> conv => whnf)
    all_goals first | exact NxtS.mk (j + 1) (by first | omega | (dsimp only; omega)) (by omega) (by (refine ⟨?_, ?_⟩ <;> repeat' (first | exact True.intro | refine ai ?_ | refine And.intro ?_ ?_))) | (simp at hc; done) | trace_state
  obtain rfl : j = 5 := by omega
  (conv => whnf); repeat' ((first | intro g | refine st ?_ | (first | refine b1 ?_ ?_ | refine b2 ?_ ?_ | refine Br.mk ?_ ?_) <;> intro hc | exact rfl) <;> conv => whnf)
end
end Go.AM

set_option maxRecDepth 20000
namespace Go.AM

def modI (a n : Int) : Int := (w64 (a.tmod n + n)).tmod n
theorem modI_bd {a : Int} {n : Nat} (h : 0 < n) (h2 : n < 1000000000000000) : 0 ≤ modI a n ∧ modI a n < n := by
  unfold modI
  have h1 := Int.tmod_lt_of_pos a (show (0 : Int) < n by omega)
  have h3 := Int.lt_tmod_of_pos a (show (0 : Int) < n by omega)
  rw [w64_id (by omega) (by omega)]
  have h4 := Int.tmod_nonneg (b := (n : Int)) (a := a.tmod n + n) (by omega)
  have h5 := Int.tmod_lt_of_pos (a.tmod n + n) (show (0 : Int) < n by omega)
  exact ⟨h4, h5⟩
theorem mod_ev {a n : Int} (h : n ≠ 0) : Ev E 93 [vi a, vi n] ⟨vi (modI a n), []⟩ := by
  refine Ev.of_s' E_93 (X_93 _) rfl ?_
  (conv => whnf); repeat' ((first | intro g | refine st ?_ | (refine Wit.strS ?_; intro s) | (first | refine b1 ?_ ?_ | refine b2 ?_ ?_ | refine Br.mk ?_ ?_) <;> intro hc | exact rfl) <;> conv => whnf)

def drawV (l : List Int) (a : Nat) : V := .agg [.lit 1 (l.map vi), vnat a]
/-- the next number -/
def nextR (l : List Int) (a n : Nat) : Nat := match l[a]? with
  | some x => (modI x n).toNat
  | none => 0
def nextA (l : List Int) (a : Nat) : Nat := if a < l.length then a + 1 else a
theorem nextR_lt {l : List Int} {a n : Nat} (h : 0 < n) (h2 : n < 1000000000000000) : nextR l a n < n := by
  unfold nextR
  split
  · rename_i x _
    have := modI_bd (a := x) h h2
    omega
  · exact h
theorem next_ev {l : List Int} (hl : l.length < 9223372036854775808) (n : Nat) {a : Nat} (h : 0 < n) (h2 : n < 1000000000000000) : Ev E 85 [.mptr 2 [drawV l a] 0 0, vnat n] ⟨vnat (nextR l a n), [(0, [drawV l (nextA l a)])]⟩ := by
  refine Ev.of_s' E_85 (X_85 _) rfl ?_
  by_cases hlt : a < l.length
  · obtain ⟨x, hx⟩ : ∃ x, l[a]? = some x := ⟨_, get_lt hlt⟩
    have hm := mod_ev (a := x) (n := (n : Int)) (by omega)
    have hw : IntKind.i64.wrap (IntKind.i64.wrap ((a : Int) + 1) - 1) = (a : Int) := by
      rw [wrap64 (n := (a : Int) + 1) (by omega) (by omega)]
      exact (wrap64 (by omega) (by omega)).trans (by omega)
    have hb := modI_bd (a := x) h h2
    have e1 : nextR l a n = (modI x n).toNat := by simp [nextR, hx]
    have e2 : nextA l a = a + 1 := by simp [nextA, hlt]
    rw [e1, e2]
    have e3 : IntKind.i64.wrap ((a : Int) + 1) = ((a + 1 : Nat) : Int) := (wrap64 (by omega) (by omega)).trans (by omega)
    have e4 : vnat (modI x n).toNat = vi (modI x n) := by show V.int _ _ = V.int _ _; congr 1; omega
    rw [e4]
    (conv => whnf); repeat' ((first | intro g | refine Wit.mk _ (map_get hx hw) ?_ | refine CallS.mk _ (hm) ?_ | refine st ?_ | (refine Wit.strS ?_; intro s) | (first | refine b1 ?_ ?_ | refine b2 ?_ ?_ | refine Br.mk ?_ ?_) <;> intro hc | exact rfl) <;> conv => whnf)
    show (⟨vi _, [(0, [V.agg [_, V.int .i64 _]])]⟩ : Res) = _
    rw [e3]; rfl
  · have e1 : nextR l a n = 0 := by simp [nextR, show l[a]? = none from by simp; omega]
    have e2 : nextA l a = a := by simp [nextA, hlt]
    rw [e1, e2]
    (conv => whnf); repeat' ((first | intro g | refine st ?_ | (refine Wit.strS ?_; intro s) | (first | refine b1 ?_ ?_ | refine b2 ?_ ?_ | refine Br.mk ?_ ?_) <;> intro hc | exact rfl) <;> conv => whnf)

theorem nextR_ilt {l : List Int} {a n : Nat} (h : 0 < n) (h2 : n < 1000000000000000) : ((nextR l a n : Nat) : Int) < (n : Int) := by
  have := nextR_lt (l := l) (a := a) h h2
  omega

/-- an element of a list of texts -/
theorem Wit.str {L : List V} {n : Nat} {q : V → Prop} (h : ∀ x ∈ L, ∃ s, x = .str s) (hn : n < L.length) (k : ∀ s, q (.str s)) : Wit (fun e => L[n]? = some e) q := by
  obtain ⟨s, hs⟩ := h L[n] (List.getElem_mem hn)
  refine ⟨_, List.getElem?_eq_getElem hn, ?_⟩
  rw [hs]; exact k s
theorem Wit.strS {L : List V} {n : Nat} {q : V → Prop} (k : ∀ s, q (.str s)) (h : ∀ x ∈ L, ∃ s, x = .str s := by simp) (hn : n < L.length := by first | exact Nat.lt_of_lt_of_le (nextR_lt (by decide) (by decide)) (by decide) | fail) : Wit (fun e => L[n]? = some e) q :=
  Wit.str h hn k
end Go.AM

set_option maxRecDepth 20000
namespace Go.AM

theorem rsub2_ev (a b : Pt) : Ev E 161 [a.v, b.v] ⟨(Pt.mk (w64 (a.x - b.x)) (w64 (a.y - b.y))).v, []⟩ := by
  refine Ev.of_s' E_161 (X_161 _) rfl ?_
  (conv => whnf); repeat' ((first | intro g | refine st ?_ | (refine Wit.strS ?_; intro s) | (first | refine b1 ?_ ?_ | refine b2 ?_ ?_ | refine Br.mk ?_ ?_) <;> intro hc | exact rfl) <;> conv => whnf)

theorem node_ev {l : List Int} (hl : l.length < 9223372036854775808) {i j : Nat} (hi : i < 10) (hj : j < 10) : ∃ p : Pt, Ev E 115 [.lit 1 (l.map vi), vnat i, vnat j] ⟨p.v, []⟩ := by
  have key := Ev.of_s (R := fun r => ∃ p : Pt, r = ⟨p.v, []⟩) E_115 (X_115 [.lit 1 (l.map vi), vnat i, vnat j]) rfl ?_
  · obtain ⟨res, h1, p, rfl⟩ := key
    exact ⟨p, h1⟩
  have w0 : IntKind.i64.wrap (4 * (j : Int)) = ((4 * j : Nat) : Int) := (wrap64 (by omega) (by omega)).trans (by omega)
  have w1 : IntKind.i64.wrap (IntKind.i64.wrap (4 * (j : Int)) + (i : Int)) = ((4 * j + i : Nat) : Int) := by rw [w0]; exact (wrap64 (by omega) (by omega)).trans (by omega)
  have w2 : IntKind.i64.wrap (2 * IntKind.i64.wrap (IntKind.i64.wrap (4 * (j : Int)) + (i : Int))) = ((2 * (4 * j + i) : Nat) : Int) := by rw [w1]; exact (wrap64 (by omega) (by omega)).trans (by omega)
  have w3 : IntKind.i64.wrap (IntKind.i64.wrap (2 * IntKind.i64.wrap (IntKind.i64.wrap (4 * (j : Int)) + (i : Int))) + 1) = ((2 * (4 * j + i) + 1 : Nat) : Int) := by rw [w2]; exact (wrap64 (by omega) (by omega)).trans (by omega)
  by_cases hlt : 2 * (4 * j + i) + 1 < l.length
  · have hx := get_lt (l := l) (i := 2 * (4 * j + i)) (by omega)
    have hy := get_lt (l := l) (i := 2 * (4 * j + i) + 1) (by omega)
    (conv => whnf); repeat' ((first | intro g | refine Wit.mk _ (map_get hx w2) ?_ | refine Wit.mk _ (map_get hy w3) ?_ | refine CallS.mk _ (mod_ev (by decide)) ?_ | refine st ?_ | (refine Wit.strS ?_; intro s) | (first | refine b1 ?_ ?_ | refine b2 ?_ ?_ | refine Br.mk ?_ ?_) <;> intro hc | exact rfl) <;> conv => whnf)
    all_goals exact ⟨⟨_, _⟩, rfl⟩
  · (conv => whnf); repeat' ((first | intro g | refine st ?_ | (refine Wit.strS ?_; intro s) | (first | refine b1 ?_ ?_ | refine b2 ?_ ?_ | refine Br.mk ?_ ?_) <;> intro hc | exact rfl) <;> conv => whnf)
    all_goals exact ⟨⟨_, _⟩, rfl⟩

theorem wiggle_ev {l : List Int} (hl : l.length < 9223372036854775808) (p q : Pt) (a0 : Nat) : ∃ (ps : List Pt) (a : Nat), 2 ≤ ps.length ∧ ps.length ≤ 5 ∧ Ev E 114 [p.v, q.v, .mptr 2 [drawV l a0] 0 0] ⟨.own 2 (ps.map Pt.v), [(0, [drawV l a])]⟩ := by
  have key := Ev.of_s (R := fun r => ∃ (ps : List Pt) (a : Nat), 2 ≤ ps.length ∧ ps.length ≤ 5 ∧ r = ⟨.own 2 (ps.map Pt.v), [(0, [drawV l a])]⟩) E_114 (X_114 [p.v, q.v, .mptr 2 [drawV l a0] 0 0]) rfl ?_
  · obtain ⟨res, h1, ps, a, h2, h3, rfl⟩ := key
    exact ⟨ps, a, h2, h3, h1⟩
  have hn : ∀ n a, 0 < n → n < 1000 → Ev E 85 [.mptr 2 [drawV l a] 0 0, vnat n] ⟨vnat (nextR l a n), [(0, [drawV l (nextA l a)])]⟩ := fun n a h h2 => next_ev hl n h (by omega)
  have hb := nextR_lt (l := l) (a := a0) (n := 4) (by omega) (by omega)
  have hsub := rsub2_ev q p
  generalize hm : nextR l a0 4 = many at hb
  have n4 := hn 4 a0 (by omega) (by omega)
  rw [hm] at n4
  (conv => whnf); repeat' ((first | intro g | refine CallS.mk _ (n4) ?_ | refine CallS.mk _ (hsub) ?_ | refine st ?_ | (refine Wit.strS ?_; intro s) | (first | refine b1 ?_ ?_ | refine b2 ?_ ?_ | refine Br.mk ?_ ?_) <;> intro hc | exact rfl) <;> conv => whnf)
  rename_i g3 g4 _ g7
  generalize hu : Pt.mk (w64 (q.x - p.x)) (w64 (q.y - p.y)) = u
  refine LoopS.by (fun ((k, ps, a, g7) : Nat × List Pt × Nat × Nat) => ⟨[(2, .ptr 2 0 0 0), (3, .ptr 64 g3 0 0), (4, .ptr 80 g4 0 0), (7, .sl 129 g7 0 ps.length), (8, vnat many), (9, .ptr 160 g 0 0), (10, vnat (k + 1))],
      [(2, ⟨0, 2, false, false, some [drawV l a]⟩), (64, ⟨g3, 2, false, false, some [p.v]⟩), (80, ⟨g4, 2, false, false, some [q.v]⟩), (129, ⟨g7, 2, true, false, some (ps.map Pt.v)⟩), (160, ⟨g, 2, false, false, some [u.v]⟩)]⟩)
    (fun (k, ps, _, _) => k ≤ many ∧ ps.length = k + 1) (fun (k, _) => many - k) (0, [p], nextA l a0, g7) (by subst hu; (refine ⟨?_, ?_⟩ <;> repeat' (first | exact True.intro | refine ai ?_ | refine And.intro ?_ ?_))) ⟨by simp, by simp⟩ ?_
  rintro ⟨k, ps, a, g7⟩ ⟨hk, hps⟩
  try dsimp only at hk hps
  have n21 := hn 21 a (by omega) (by omega)
  have e1 : IntKind.i64.wrap ((many : Int) + 1) = ((many + 1 : Nat) : Int) := (wrap64 (by omega) (by omega)).trans (by omega)
  have e2 : (many : Int).tdiv 2 = ((many / 2 : Nat) : Int) := rfl
  have e3 : IntKind.i64.wrap ((many : Int).tdiv 2) = ((many / 2 : Nat) : Int) := by rw [e2]; exact (wrap64 (by omega) (by omega)).trans (by omega)
  have e4 : IntKind.i64.wrap (1 + IntKind.i64.wrap ((many : Int).tdiv 2)) = ((1 + many / 2 : Nat) : Int) := by rw [e3]; exact (wrap64 (by omega) (by omega)).trans (by omega)
  (conv => whnf); repeat' ((first | intro g | refine CallS.mk _ (n21) ?_ | refine st ?_ | (refine Wit.strS ?_; intro s) | (first | refine b1 ?_ ?_ | refine b2 ?_ ?_ | refine Br.mk ?_ ?_) <;> intro hc | exact rfl) <;> conv => whnf)
  · refine NxtS.mk (k + 1, ps ++ [⟨?x, ?y⟩], ?a, ?g) ?h1 ?h2 ?h3
    case h3 => (refine ⟨?_, ?_⟩ <;> repeat' (first | exact True.intro | refine ai ?_ | refine And.intro ?_ ?_))
    case h1 => (first | omega | (dsimp only; omega))
    case h2 => exact ⟨by omega, by simp; omega⟩
  · refine NxtS.mk (k + 1, ps ++ [⟨?x2, ?y2⟩], ?a2, ?g2) ?k1 ?k2 ?k3
    case k3 => (refine ⟨?_, ?_⟩ <;> repeat' (first | exact True.intro | refine ai ?_ | refine And.intro ?_ ?_))
    case k1 => (first | omega | (dsimp only; omega))
    case k2 => exact ⟨by omega, by simp; omega⟩
  · exact ⟨ps ++ [q], a, by simp; omega, by simp; omega, by simp⟩
end Go.AM

set_option maxRecDepth 20000
namespace Go.AM

set_option maxHeartbeats 1000000 in
theorem turned_ev (e : Edge) (h0 : e.line ≠ []) (hl : e.line.length < 1000000) : ∃ e' : Edge, e'.line.length = e.line.length ∧ Ev E 131 [e.v] ⟨.agg [vi e'.id, .own 2 (e'.line.map Pt.v), vi e'.left, vi e'.right], []⟩ := by
  have key := Ev.of_s (R := fun r => ∃ e' : Edge, e'.line.length = e.line.length ∧ r = ⟨.agg [vi e'.id, .own 2 (e'.line.map Pt.v), vi e'.left, vi e'.right], []⟩) E_131 (X_131 [e.v]) rfl ?_
  · obtain ⟨res, h1, e', h2, rfl⟩ := key
    exact ⟨e', h2, h1⟩
  have hp : 0 < e.line.length := List.length_pos_iff.2 h0
  have e1 : IntKind.i64.wrap ((e.line.length : Int) - 1) = (e.line.length : Int) - 1 := wrap64 (by omega) (by omega)
  (conv => whnf); repeat' ((first | intro g | refine st ?_ | (refine Wit.strS ?_; intro s) | (first | refine b1 ?_ ?_ | refine b2 ?_ ?_ | refine Br.mk ?_ ?_) <;> intro hc | exact rfl) <;> conv => whnf)
  rename_i g1 g2
  refine LoopS.by (fun ((j, ps, og) : Nat × List Pt × Option Nat) => ⟨[(1, .ptr 32 g1 0 0), (2, .ptr 48 g2 0 0), (3, .ptr 64 g 0 0), (4, vi ((j : Int) - 1))],
      match og with
      | none => [(32, ⟨g1, 4, false, false, some [e.v]⟩), (48, ⟨g2, 4, false, false, some [.agg [vi 0, .lit 2 [], vi 0, vi 0]]⟩), (64, ⟨g, 4, false, false, some [.agg [vi e.id, .nils, vi e.right, vi e.left]]⟩)]
      | some g5 => [(32, ⟨g1, 4, false, false, some [e.v]⟩), (48, ⟨g2, 4, false, false, some [.agg [vi 0, .lit 2 [], vi 0, vi 0]]⟩), (64, ⟨g, 4, false, false, some [.agg [vi e.id, .sl 67 g5 0 ps.length, vi e.right, vi e.left]]⟩), (67, ⟨g5, 2, true, false, some (ps.map Pt.v)⟩)]⟩)
    (fun (j, ps, og) => j + ps.length = e.line.length ∧ (og = none → ps = [])) (fun (j, _) => j) (e.line.length, [], none) ?_ ⟨by simp, by simp⟩ ?_
  · (refine ⟨?_, ?_⟩ <;> repeat' (first | exact True.intro | refine ai ?_ | refine And.intro ?_ ?_))
  rintro ⟨j, ps, og⟩ ⟨hj, hog⟩
  try dsimp only at hj hog
  cases j with
  | zero =>
    cases og with
    | none => have := hog rfl; subst this; simp at hj; omega
    | some g5 =>
      (conv => whnf); repeat' ((first | intro g | refine st ?_ | (refine Wit.strS ?_; intro s) | (first | refine b1 ?_ ?_ | refine b2 ?_ ?_ | refine Br.mk ?_ ?_) <;> intro hc | exact rfl) <;> conv => whnf)
      exact ⟨⟨e.id, ps, e.right, e.left⟩, by simpa using hj, rfl⟩
  | succ j =>
    obtain ⟨x, hx⟩ : ∃ x, e.line[j]? = some x := ⟨_, get_lt (by omega)⟩
    have hjw : ((j + 1 : Nat) : Int) - 1 = (j : Int) := by omega
    cases og with
    | none =>
      have := hog rfl
      subst this
      (conv => whnf); repeat' ((first | intro g | refine Wit.mk _ (map_get hx hjw) ?_ | refine st ?_ | (refine Wit.strS ?_; intro s) | (first | refine b1 ?_ ?_ | refine b2 ?_ ?_ | refine Br.mk ?_ ?_) <;> intro hc | exact rfl) <;> conv => whnf)
      refine NxtS.mk (j, [x], some g) (by first | omega | (dsimp only; omega)) ⟨by simp at hj ⊢; omega, by simp⟩ (by (refine ⟨?_, ?_⟩ <;> repeat' (first | exact True.intro | refine ai ?_ | refine And.intro ?_ ?_)))
    | some g5 =>
      (conv => whnf); repeat' ((first | intro g | refine Wit.mk _ (map_get hx hjw) ?_ | refine st ?_ | (refine Wit.strS ?_; intro s) | (first | refine b1 ?_ ?_ | refine b2 ?_ ?_ | refine Br.mk ?_ ?_) <;> intro hc | exact rfl) <;> conv => whnf)
      refine NxtS.mk (j, ps ++ [x], some g) (by first | omega | (dsimp only; omega)) ⟨by simp at hj ⊢; omega, by simp⟩ (by (refine ⟨?_, ?_⟩ <;> repeat' (first | exact True.intro | refine ai ?_ | refine And.intro ?_ ?_)))

def LineFit (ps : List Pt) : Prop := 2 ≤ ps.length ∧ ps.length ≤ 5
def EFit (es : List Edge) (n : Nat) : Prop := es.length ≤ n ∧ ∀ e ∈ es, LineFit e.line
theorem EFit.snoc {es : List Edge} {n : Nat} {e : Edge} (h : EFit es n) (k : LineFit e.line) : EFit (es ++ [e]) (n + 1) :=
  ⟨by have := h.1; simp; omega, fun x hx => by
    rcases List.mem_append.1 hx with hx | hx
    · exact h.2 x hx
    · have : x = e := by simpa using hx
      subst this; exact k⟩
theorem EFit.mono {es : List Edge} {n m : Nat} (h : EFit es n) (k : n ≤ m) : EFit es m := ⟨Nat.le_trans h.1 k, h.2⟩

set_option maxHeartbeats 1000000 in
theorem add_ev {l : List Int} (hl : l.length < 9223372036854775808) {es : List Edge} {n : Nat} (he : EFit es n) (hn : n < 1000) {ps : List Pt} (hps : LineFit ps) (left right : Int) (a0 : Nat) :
    ∃ (es' : List Edge) (a b : Nat), EFit es' (n + 1) ∧ Ev E 113 [.msl 4 (es.map Edge.v) 0 es.length, ptsV ps, vi left, vi right, .mptr 2 [drawV l a0] 0 0] ⟨.sl 0 b 0 es'.length, [(b, es'.map Edge.v), (0, [drawV l a])]⟩ := by
  have key := Ev.of_s (R := fun r => ∃ (es' : List Edge) (a b : Nat), EFit es' (n + 1) ∧ r = ⟨.sl 0 b 0 es'.length, [(b, es'.map Edge.v), (0, [drawV l a])]⟩) E_113 (X_113 [.msl 4 (es.map Edge.v) 0 es.length, ptsV ps, vi left, vi right, .mptr 2 [drawV l a0] 0 0]) rfl ?_
  · obtain ⟨res, h1, es', a, b, h2, rfl⟩ := key
    exact ⟨es', a, b, h2, h1⟩
  have hel := he.1
  have n2 := next_ev hl 2 (a := a0) (by omega) (by omega)
  have hidw : IntKind.i64.wrap ((es.length : Int) + 1) = (es.length : Int) + 1 := wrap64 (by omega) (by omega)
  obtain ⟨e', ht1, ht2⟩ := turned_ev ⟨IntKind.i64.wrap ((es.length : Int) + 1), ps, left, right⟩ (by intro h; dsimp only at h; subst h; have := hps.1; simp at this) (by dsimp only; have := hps.2; omega)
  (conv => whnf); repeat' ((first | intro g | refine CallS.mk _ (n2) ?_ | refine CallS.mk _ (ht2) ?_ | refine st ?_ | (refine Wit.strS ?_; intro s) | (first | refine b1 ?_ ?_ | refine b2 ?_ ?_ | refine Br.mk ?_ ?_) <;> intro hc | exact rfl) <;> conv => whnf)
  · exact ⟨es, a0, 0, he.mono (by omega), rfl⟩
  · refine ⟨es ++ [e'], nextA l a0, g, he.snoc ?_, ?_⟩
    · unfold LineFit at *; dsimp only at ht1; omega
    · simp only [List.map_append, List.map_cons, List.map_nil, List.length_append, List.length_cons, List.length_nil, List.length_map]; rfl
  · refine ⟨es ++ [⟨IntKind.i64.wrap ((es.length : Int) + 1), ps, left, right⟩], nextA l a0, g, he.snoc hps, ?_⟩
    simp only [List.map_append, List.map_cons, List.map_nil, List.length_append, List.length_cons, List.length_nil, List.length_map]; rfl
end Go.AM

set_option maxRecDepth 20000
namespace Go.AM

theorem cell_ev {cs : List Int} (hcs : cs.length = 6) {w h : Nat} (hw : w ≤ 3) (hh : h ≤ 2) (i j : Int) : ∃ r : Int, Ev E 116 [.agg (cs.map vi), vnat w, vnat h, vi i, vi j] ⟨vi r, []⟩ := by
  have key := Ev.of_s (R := fun r => ∃ x : Int, r = ⟨vi x, []⟩) E_116 (X_116 [.agg (cs.map vi), vnat w, vnat h, vi i, vi j]) rfl ?_
  · obtain ⟨res, h1, x, rfl⟩ := key
    exact ⟨x, h1⟩
  match cs, hcs with
  | [x0, x1, x2, x3, x4, x5], _ =>
    by_cases hin : 0 ≤ i ∧ 0 ≤ j ∧ i < w ∧ j < h
    · rcases (by omega : i = 0 ∨ i = 1 ∨ i = 2) with rfl | rfl | rfl <;> rcases (by omega : j = 0 ∨ j = 1) with rfl | rfl
      all_goals
        (conv => whnf); repeat' ((first | intro g | refine st ?_ | (refine Wit.strS ?_; intro s) | (first | refine b1 ?_ ?_ | refine b2 ?_ ?_ | refine Br.mk ?_ ?_) <;> intro hc | exact rfl) <;> conv => whnf)
        all_goals exact ⟨_, rfl⟩
    · (conv => whnf); repeat' ((first | intro g | refine st ?_ | (refine Wit.strS ?_; intro s) | (first | refine b1 ?_ ?_ | refine b2 ?_ ?_ | refine Br.mk ?_ ?_) <;> intro hc | exact rfl) <;> conv => whnf)
      all_goals first | exact ⟨_, rfl⟩ | (exfalso; omega)

theorem map_single (n : Int) : [vi n] = List.map vi [n] := rfl
theorem put_fin {k : Nat} {n : Int} (A B : List Int) (h : A.length + B.length ≤ k) : ∃ l' : List Int, l'.length ≤ k + 1 ∧
    ((⟨V.own 1 ([] ++ A.map vi ++ [vi n] ++ B.map vi), []⟩ : Res) = ⟨.lit 1 (l'.map vi), []⟩ ∨ (⟨V.own 1 ([] ++ A.map vi ++ [vi n] ++ B.map vi), []⟩ : Res) = ⟨.own 1 (l'.map vi), []⟩) :=
  ⟨A ++ [n] ++ B, by simp; omega, .inr (by simp)⟩
theorem put_ev {l : List Int} (hl : l.length < 1000000) (n : Int) : ∃ l' : List Int, l'.length ≤ l.length + 1 ∧ (Ev E 162 [.lit 1 (l.map vi), vi n] ⟨.lit 1 (l'.map vi), []⟩ ∨ Ev E 162 [.lit 1 (l.map vi), vi n] ⟨.own 1 (l'.map vi), []⟩) := by
  have key := Ev.of_s (R := fun r => ∃ l' : List Int, l'.length ≤ l.length + 1 ∧ (r = ⟨.lit 1 (l'.map vi), []⟩ ∨ r = ⟨.own 1 (l'.map vi), []⟩)) E_162 (X_162 [.lit 1 (l.map vi), vi n]) rfl ?_
  · obtain ⟨res, h1, l', h2, rfl | rfl⟩ := key
    · exact ⟨l', h2, .inl h1⟩
    · exact ⟨l', h2, .inr h1⟩
  (conv => whnf); repeat' ((first | intro g | refine st ?_ | (refine Wit.strS ?_; intro s) | (first | refine b1 ?_ ?_ | refine b2 ?_ ?_ | refine Br.mk ?_ ?_) <;> intro hc | exact rfl) <;> conv => whnf)
  refine LoopS.by (fun (j : Nat) => ⟨[(0, .lit 1 (l.map vi)), (1, vi n), (5, vnat j)], []⟩) (fun j => j ≤ l.length) (fun j => j) l.length ?_ (Nat.le_refl _) ?_
  · (refine ⟨?_, ?_⟩ <;> repeat' (first | exact True.intro | refine ai ?_ | refine And.intro ?_ ?_))
  intro j hj
  by_cases hlt : j < l.length
  · obtain ⟨x, hx⟩ : ∃ x, l[j]? = some x := ⟨_, get_lt hlt⟩
    cases j with
    | zero =>
      (conv => whnf); repeat' ((first | intro g | refine Wit.mk _ (map_get hx rfl) ?_ | refine Wit.mk _ (window_map _ _ _ _) ?_ | refine st ?_ | (refine Wit.strS ?_; intro s) | (first | refine b1 ?_ ?_ | refine b2 ?_ ?_ | refine Br.mk ?_ ?_) <;> intro hc | exact rfl) <;> conv => whnf)
      all_goals first
        | exact ⟨l, by omega, .inl rfl⟩
        | exact NxtS.mk j (by first | omega | (dsimp only; omega)) (by omega) (by (refine ⟨?_, ?_⟩ <;> repeat' (first | exact True.intro | refine ai ?_ | refine And.intro ?_ ?_)))
        | exact put_fin _ _ (by simp only [List.length_take, List.length_drop, List.length_map]; omega)
        | trace_state
    | succ j =>
      obtain ⟨y, hy⟩ : ∃ y, l[j]? = some y := ⟨_, get_lt (by omega)⟩
      have hjw : IntKind.i64.wrap (((j + 1 : Nat) : Int) - 1) = (j : Int) := (wrap64 (by omega) (by omega)).trans (by omega)
      (conv => whnf); repeat' ((first | intro g | refine Wit.mk _ (map_get hx rfl) ?_ | refine Wit.mk _ (map_get hy hjw) ?_ | refine Wit.mk _ (window_map _ _ _ _) ?_ | refine st ?_ | (refine Wit.strS ?_; intro s) | (first | refine b1 ?_ ?_ | refine b2 ?_ ?_ | refine Br.mk ?_ ?_) <;> intro hc | exact rfl) <;> conv => whnf)
      all_goals first
        | exact ⟨l, by omega, .inl rfl⟩
        | exact NxtS.mk j (by first | omega | (dsimp only; omega)) (by omega) (by (refine ⟨?_, ?_⟩ <;> repeat' (first | exact True.intro | refine ai ?_ | refine And.intro ?_ ?_)))
        | exact put_fin _ _ (by simp only [List.length_take, List.length_drop, List.length_map]; omega)
        | trace_state
  · cases j with
    | zero =>
      (conv => whnf); repeat' ((first | intro g | refine Wit.mk _ (window_map _ _ _ _) ?_ | refine st ?_ | (refine Wit.strS ?_; intro s) | (first | refine b1 ?_ ?_ | refine b2 ?_ ?_ | refine Br.mk ?_ ?_) <;> intro hc | exact rfl) <;> conv => whnf)
      all_goals first
        | exact ⟨l, by omega, .inl rfl⟩
        | exact NxtS.mk j (by first | omega | (dsimp only; omega)) (by omega) (by (refine ⟨?_, ?_⟩ <;> repeat' (first | exact True.intro | refine ai ?_ | refine And.intro ?_ ?_)))
        | exact put_fin _ _ (by simp only [List.length_take, List.length_drop, List.length_map]; omega)
        | trace_state
    | succ j =>
      obtain ⟨y, hy⟩ : ∃ y, l[j]? = some y := ⟨_, get_lt (by omega)⟩
      have hjw : IntKind.i64.wrap (((j + 1 : Nat) : Int) - 1) = (j : Int) := (wrap64 (by omega) (by omega)).trans (by omega)
      (conv => whnf); repeat' ((first | intro g | refine Wit.mk _ (map_get hy hjw) ?_ | refine Wit.mk _ (window_map _ _ _ _) ?_ | refine st ?_ | (refine Wit.strS ?_; intro s) | (first | refine b1 ?_ ?_ | refine b2 ?_ ?_ | refine Br.mk ?_ ?_) <;> intro hc | exact rfl) <;> conv => whnf)
      all_goals first
        | exact ⟨l, by omega, .inl rfl⟩
        | exact NxtS.mk j (by first | omega | (dsimp only; omega)) (by omega) (by (refine ⟨?_, ?_⟩ <;> repeat' (first | exact True.intro | refine ai ?_ | refine And.intro ?_ ?_)))
        | exact put_fin _ _ (by simp only [List.length_take, List.length_drop, List.length_map]; omega)
        | trace_state
end Go.AM
