/- Texts of the proof. -/
import Derived.Test.YtdifmldbllaeiaaGreatOpsB
import Derived.Test.YtdifmldbllaeiaaGreatBase
import Derived.Laws.Externs
import Derived.Laws.Cover3
import GoSem.Extern.MathSqrt
import Derived.ProofKit
import Derived.ChangeSame
import Derived.ChangeArms
import Derived.OpenShut
import Derived.Deep.Slices
import Derived.Carry
set_option linter.unusedSimpArgs false
set_option linter.unusedVariables false
namespace Go.AM
open Go Go.RowKit
def vl (P:Program) (r:Result Next) (R:Value->World->Prop):Prop:=
 match r with
 | .ok (.value v) w'=>R v w'
 | .ok (.enter f args) w'=>Calls P f args w' fun| .returned v,Nu=>R v Nu| _,_=>False
 | _=>False
theorem vl.upon {P:Program} {r:Result Next} {R:Value->World->Prop} (h:vl P r R) {o:Oper} {a:Go.Act} {b:Go.Act->World->Prop} {Q:Go.Exit->Go.Act->World->Prop}
  (hn: ∀v w,R v w->b (a.put o.dst v) w):o.upon P a b Q r:=by
 unfold vl at h;split at h
 .exact hn _ _ h
 .rw[Oper.upon_enter];refine Calls.mono h fun e w' he=> ?_;cases e with
  | returned v=>exact hn _ _ he
  | panicked c=>exact he.elim
  | outgrown=>exact he.elim
 exact h.elim
def V.j5:V->Bool
 | .own .. =>true
 | c=>c.aZ
theorem xr {c:V} (h:c.aZ=true):c.j5=true:=by cases c<;>simp_all[V.aZ,V.j5]
inductive dT (n:Nat) (σ:St):V->V->List Nat->Prop
 | one {v0 v:V} {rs:List Nat} (h:ej n σ v0=some (v,rs)):dT n σ v0 v rs
 | many {vs vs':List V} {rs:List Nat} (h:dN n σ vs=some (vs',rs)):dT n σ (.tuple vs) (.tuple vs') rs
def bL (X:TrEnv) (F:FuncId) (args:List V) (res:fu):Prop:=
 ∀ (B:Nat->Prop) (K:Nat×Nat) (w:World) (φ0:Nat->Row) (vals:List Value),vals.length=args.length->
  (∀t v,vals[t]? =some v->aj ⟨X,B,K⟩ ⟨w,φ0,(enter args).O⟩ ((enter args).T t) v)->bq ⟨X,B,K⟩ ⟨w,φ0,(enter args).O⟩->
  vl X.P ((callFunc F vals.toArray).run X.P w) fun val w'=> ∃φ' T' O' v0 a,Le ⟨w,φ0,(enter args).O⟩ ⟨w',φ',O'⟩/\bq ⟨X,B,K⟩ ⟨w',φ',O'⟩/\
     aj ⟨X,B,K⟩ ⟨w',φ',O'⟩ v0 val/\dT args.length ⟨T',O'⟩ v0 res.val a/\distinct a=true/\cV O' 0 args=some res.outs
inductive Xy (Y:Ctx) (μ:Mu) (n:Nat):V->List Nat->Value->Prop
 | pure {c:V} {val:Value} (hp:c.az=true) (h:aj Y μ c val):Xy Y μ n c [] val
 | sl {r g off len:Nat} {es:List V} {val:Value} (hr:r<n) (bC: (μ.O r).es=some es) (hg: (μ.O r).gen=g) (hl:off+len<=es.length) (h:aj Y μ (.sl r g off len) val):Xy Y μ n (.sl r g off len) [r] val
 | own {r g off len:Nat} {es:List V} {val:Value} (hr:n<=r) (bC: (μ.O r).es=some es) (iC: (μ.O r).fz=false) (hg: (μ.O r).gen=g) (hl:off+len<=es.length) (hp:V.al (aN es off len)=true)
    (h:aj Y μ (.sl r g off len) val):Xy Y μ n (.own (μ.O r).sz (aN es off len)) [r] val
inductive Dw (Y:Ctx) (μ:Mu) (n:Nat):List V->List Nat->List Value->Prop
 | nil:Dw Y μ n [] [] []
 | cons {c:V} {rs rs':List Nat} {val:Value} {cs:List V} {vals:List Value} (h:Xy Y μ n c rs val) (hs:Dw Y μ n cs rs' vals):Dw Y μ n (c::cs) (rs++rs') (val::vals)
section
variable {Y:Ctx} {μ:Mu} {n:Nat}
theorem Dw.length {cs:List V} {rs:List Nat} {vals:List Value} (h:Dw Y μ n cs rs vals):cs.length=vals.length:=by
 induction h with
 | nil=>rfl
 | cons _ _ a=>simp[a]
theorem LW (b:bq Y μ) {r g off len:Nat} {es:List V} {val:Value} (bC: (μ.O r).es=some es) (iC: (μ.O r).fz=true) (hg: (μ.O r).gen=g) (hl:off+len<=es.length)
  (hp:V.al (aN es off len)=true) (h:aj Y μ (.sl r g off len) val):aj Y μ (.lit (μ.O r).sz (aN es off len)) val:=by
 simp only[aj] at h ⊢;obtain⟨a,cap,rfl,j,p,k⟩:=h;obtain⟨a0,a1,l⟩:=k hg;obtain⟨q,s,d,f⟩:=b.row r es bC a0;have c: (aN es off len).length=len:=by simp[aN];omega
 have i: (aN es off len).all V.dw=true:=by simp only[ajx] at d ⊢;exact fun x hx=> (cF (d x (aki (ajN hx)))).1
 by_cases JT:len=0
 .exact⟨hp,i,a,cap,[],by rw[c],ajk,by simp[aN,JT,ag],.inl (by simpa using c.trans JT)⟩
 rcases f with f| ⟨t,TT,vs,m,u,n,o⟩
 .omega
 refine⟨hp,i,a,cap,(vs.drop off).take len,by rw[c],ajk,ag.take _ (ag.drop _ n),.inr ⟨_,_,l.resolve_left ajk,?_,(ajs.1 m).1,(o.drop off).take len⟩⟩;rintro(⟨r',k1,k2,k3,k4⟩ | hb)
 .by_cases e:r'=r
  .subst e;rw[iC] at k2;simp at k2
  exact b.inj r' r e k1 (by simp[bC]) k3 ajk k4
 exact b.vE r (by simp[bC]) ajk hb
theorem pT (a:bq Y μ) {T:Nat->V} {c c':V} {rs:List Nat} {val:Value} (h:aj Y μ c val) (he:cQ n ⟨T,μ.O⟩ c=some (c',rs)):Xy Y μ n c' rs val:=by
 unfold cQ at he;split at he
 .rename_i r g off len;simp only at he;split at he
  .rename_i es bC;split at he
   .rename_i hc;obtain⟨c1,c2,c3,c4⟩:=hc;split at he
    .rename_i hr;simp only[ajq,ajv] at he;obtain⟨rfl,rfl⟩:=he;exact .sl hr bC c1 c2 h
    rename_i hr;split at he
    .rename_i iC;simp only[ajq,ajv] at he;obtain⟨rfl,rfl⟩:=he;exact .pure rfl (LW a bC iC c1 c2 c4 h)
    rename_i iC;simp only[ajq,ajv] at he;obtain⟨rfl,rfl⟩:=he;exact .own ajk bC (by simpa using iC) c1 c2 c4 h
   simp at he
  simp at he
 split at he
 .rename_i hp;simp only[ajq,ajv] at he;obtain⟨rfl,rfl⟩:=he;exact .pure hp h
 simp at he
theorem j8 (b:bq Y μ) {T:Nat->V}: ∀ {cs a:List V} {rs:List Nat} {vals:List Value},ag Y μ cs vals->cC n ⟨T,μ.O⟩ cs=some (a,rs)->Dw Y μ n a rs vals
 | [],a,rs,[],_,he=>by simp[cC] at he;obtain⟨rfl,rfl⟩:=he;exact .nil
 | [],_,_,_::_,h,_=>by simp[ag] at h
 | _::_,_,_,[],h,_=>by simp[ag] at h
 | c::cs,a,rs,v::vs,h,he=>by
   simp only[ag] at h;simp only[cC] at he;split at he
   .rename_i c1 r1 d e h1 h2;simp only[ajq,ajv] at he;obtain⟨rfl,rfl⟩:=he;exact .cons (pT b h.1 h1) (j8 b h.2 h2)
   simp at he
inductive IN (Y:Ctx) (μ:Mu) (n:Nat):V->List Nat->Value->Prop
 | cell {c:V} {rs:List Nat} {val:Value} (h:Xy Y μ n c rs val):IN Y μ n c rs val
 | agg {cs:List V} {rs:List Nat} {vals:Array Value} (hc:cs.all V.j5=true) (h:Dw Y μ n cs rs vals.toList):IN Y μ n (.agg cs) rs (.agg vals)
inductive rY (Y:Ctx) (μ:Mu) (n:Nat):List V->List Nat->List Value->Prop
 | nil:rY Y μ n [] [] []
 | cons {c:V} {rs rs':List Nat} {val:Value} {cs:List V} {vals:List Value} (h:IN Y μ n c rs val) (hs:rY Y μ n cs rs' vals):rY Y μ n (c::cs) (rs++rs') (val::vals)
theorem xt {T:Nat->V} {O:Nat->Obj} {c c':V} {rs:List Nat} (he:cQ n ⟨T,O⟩ c=some (c',rs)) (hc:c.aZ=true):V.j5 c'=true:=by
 unfold cQ at he;split at he
 .simp only at he;split at he
  .split at he
   .split at he
    .simp only[ajq,ajv] at he;obtain⟨rfl,rfl⟩:=he;rfl
    split at he
    .simp only[ajq,ajv] at he;obtain⟨rfl,rfl⟩:=he;rfl
    simp only[ajq,ajv] at he;obtain⟨rfl,rfl⟩:=he;rfl
   simp at he
  simp at he
 split at he
 .simp only[ajq,ajv] at he;obtain⟨rfl,rfl⟩:=he;exact xr hc
 simp at he
theorem nG {T:Nat->V} {O:Nat->Obj}: ∀ {cs a:List V} {rs:List Nat},cC n ⟨T,O⟩ cs=some (a,rs)->cs.all V.aZ=true->
   a.all V.j5=true
 | [],a,rs,he,_=>by simp[cC] at he;obtain⟨rfl,rfl⟩:=he;rfl
 | c::cs,a,rs,he,hc=>by
   simp only[ajM,ajt] at hc;simp only[cC] at he;split at he
   .rename_i c1 r1 b d h1 h2;simp only[ajq,ajv] at he;obtain⟨rfl,rfl⟩:=he;have i1:=xt h1 hc.1;have i2:=nG h2 hc.2;rw[ajM,i2,aj9];exact i1
   simp at he
theorem Dw.aV {cs:List V} {rs:List Nat} {vals:List Value} (h:Dw Y μ n cs rs vals) (hp:V.al cs=true):ag Y μ cs vals/\rs=[]:=by
 induction h with
 | nil=>simp[ag]
 | cons h hs a=>
   simp only[V.al,ajt] at hp;obtain⟨i1,i2⟩:=a hp.2;cases h with
   | pure Gm hv=>simp only[ag];exact⟨⟨hv,i1⟩,by simpa using i2⟩
   | sl=>simp[V.az] at hp
   | own=>simp[V.az] at hp
theorem oX (b:bq Y μ) {T:Nat->V} {v v':V} {rs:List Nat} {val:Value} (h:aj Y μ v val) (he:ej n ⟨T,μ.O⟩ v=some (v',rs)):IN Y μ n v' rs val:=by
 unfold ej at he;split at he
 .rename_i hp;simp only[ajq,ajv] at he;obtain⟨rfl,rfl⟩:=he;exact .cell (.pure hp h)
 split at he
 .simp only[aj] at h;obtain⟨h1,vs,rfl,h2⟩:=h;split at he
  .rename_i c rs' a;simp only[ajq,ajv] at he;obtain⟨rfl,rfl⟩:=he;exact .agg (nG a h1) (j8 b h2 a)
  simp at he
 .simp only[aj] at h;obtain⟨F,d,rfl,h1,h2⟩:=h;split at he
  .rename_i c rs' a;split at he
   .rename_i hp;simp only[ajq,ajv] at he;obtain⟨rfl,rfl⟩:=he;obtain⟨e,f⟩:=(j8 b h2 a).aV hp;subst f;refine .cell (.pure (by simpa [V.az] using hp) ?_);simp only[aj];exact⟨F,d,rfl,h1,e⟩
   simp at he
  simp at he
 exact .cell (pT b h he)
theorem nv (b:bq Y μ) {T:Nat->V}: ∀ {cs a:List V} {rs:List Nat} {vals:List Value},ag Y μ cs vals->dN n ⟨T,μ.O⟩ cs=some (a,rs)->rY Y μ n a rs vals
 | [],a,rs,[],_,he=>by simp[dN] at he;obtain⟨rfl,rfl⟩:=he;exact .nil
 | [],_,_,_::_,h,_=>by simp[ag] at h
 | _::_,_,_,[],h,_=>by simp[ag] at h
 | c::cs,a,rs,v::vs,h,he=>by
   simp only[ag] at h;simp only[dN] at he;split at he
   .rename_i c1 r1 d e h1 h2;simp only[ajq,ajv] at he;obtain⟨rfl,rfl⟩:=he;exact .cons (oX b h.1 h1) (nv b h.2 h2)
   simp at he
end
end Go.AM
namespace Go.AM
open Go Go.RowKit
def fK (φ:Nat->Row) (ws:List eY) (i:Nat):Row:=
 match ws with
 | []=> ⟨0,0,0⟩
 | w::ws=>if w.i=i then(match w.fresh with| none=>φ w.r| some _=> ⟨0,0,0⟩) else fK φ ws i
inductive zC (X:Ctx) (μ:Mu) (r0 i:Nat) (rs:List Nat) (ws:List eY):V->Value->Prop
 | plain {a:V} {v:Value} (hp:V.az a=true) (hs:lJ X μ rs a v):zC X μ r0 i rs ws a v
 | sl {r g off len:Nat} {es:List V} {v:Value} (hw: (⟨i,r,none⟩:eY) ∈ ws) (bC: (μ.O r).es=some es) (iC: (μ.O r).fz=false) (cT: (μ.O r).gen=g) (ot:V.al es=true)
    (jg:off+len<=es.length) (hv:aj X μ (.sl r g off len) v):zC X μ r0 i rs ws (.msl (μ.O r).sz es off len) v
 | ptr {r g idx off:Nat} {es:List V} {v:Value} (hw: (⟨i,r,none⟩:eY) ∈ ws) (bC: (μ.O r).es=some es) (iC: (μ.O r).fz=false) (cT: (μ.O r).gen=g) (ot:V.al es=true)
    (hv:aj X μ (.ptr r g idx off) v):zC X μ r0 i rs ws (.mptr (μ.O r).sz es idx off) v
 | fresh {sz:Nat} {v:Value} (hw: (⟨i,r0+i,some sz⟩:eY) ∈ ws) (bM:0 <sz) (hv: ∃a,v= .slice a 0 0):zC X μ r0 i rs ws (.msl sz [] 0 0) v
section
variable {X:Ctx} {μ:Mu} {r0:Nat}
theorem zC.more {i:Nat} {rs rs':List Nat} {ws G7:List eY} {a:V} {v:Value} (h:zC X μ r0 i rs ws a v) (h1: ∀r ∈ rs,r ∈ rs') (h2: ∀w ∈ ws,w ∈ G7):zC X μ r0 i rs' G7 a v:=by
 cases h with
 | plain hp hs=>exact .plain hp (hs.more h1)
 | sl hw a b c d e f=>exact .sl (h2 _ hw) a b c d e f
 | ptr hw a b c d f=>exact .ptr (h2 _ hw) a b c d f
 | fresh hw a b=>exact .fresh (h2 _ hw) a b
theorem nF.at {i:Nat} {aL:List V} {vs:List Value} {rs:List Nat} {ws:List eY} (h:nF X μ r0 i aL vs rs ws):
   aL.length=vs.length/\(∀w ∈ ws,i<=w.i)/\(∀t a,aL[t]? =some a-> ∃v,vs[t]? =some v/\zC X μ r0 (i+t) rs ws a v):=by
 induction h with
 | nil i=>simp
 | @plain i a v rs rs' aL vs ws hp hs h c=>
   obtain⟨i1,i2,i3⟩:=c;refine⟨by simp[i1],fun w hw=>by have:=i2 w hw;omega,fun t b hb=> ?_⟩;cases t with
   | zero=>simp at hb;subst hb;exact⟨v,ajl,.plain hp (hs.more (by simp+contextual))⟩
   | succ t=>
     obtain⟨v',d,f⟩:=i3 t b (by simpa using hb);refine⟨v',by simpa using d,?_⟩;have e:i+(t+1)=i+1+t:=ajk;rw[e];exact f.more (by simp+contextual) (fun w hw=>hw)
 | @sl i r g off len es v rs aL vs ws bC iC cT ot jg hv h c=>
   obtain⟨i1,i2,i3⟩:=c;refine⟨by simp[i1],fun w hw=> ?_,fun t b hb=> ?_⟩
   . rcases ajy.1 hw with rfl| hw
     .exact ajw _
     have:=i2 w hw;omega
   cases t with
   | zero=>simp at hb;subst hb;exact⟨v,ajl,.sl ajl bC iC cT ot jg hv⟩
   | succ t=>
     obtain⟨v',d,f⟩:=i3 t b (by simpa using hb);refine⟨v',by simpa using d,?_⟩;have e:i+(t+1)=i+1+t:=ajk;rw[e];exact f.more (fun r hr=>hr) (fun w hw=>by simp[hw])
 | @ptr i r g idx off es v rs aL vs ws bC iC cT ot hv h c=>
   obtain⟨i1,i2,i3⟩:=c;refine⟨by simp[i1],fun w hw=> ?_,fun t b hb=> ?_⟩
   . rcases ajy.1 hw with rfl| hw
     .exact ajw _
     have:=i2 w hw;omega
   cases t with
   | zero=>simp at hb;subst hb;exact⟨v,ajl,.ptr ajl bC iC cT ot hv⟩
   | succ t=>
     obtain⟨v',d,f⟩:=i3 t b (by simpa using hb);refine⟨v',by simpa using d,?_⟩;have e:i+(t+1)=i+1+t:=ajk;rw[e];exact f.more (fun r hr=>hr) (fun w hw=>by simp[hw])
 | @fresh i sz v rs aL vs ws bM hv h c=>
   obtain⟨i1,i2,i3⟩:=c;refine⟨by simp[i1],fun w hw=> ?_,fun t b hb=> ?_⟩
   . rcases ajy.1 hw with rfl| hw
     .exact ajw _
     have:=i2 w hw;omega
   cases t with
   | zero=>simp at hb;subst hb;exact⟨v,ajl,.fresh ajl bM hv⟩
   | succ t=>
     obtain⟨v',d,f⟩:=i3 t b (by simpa using hb);refine⟨v',by simpa using d,?_⟩;have e:i+(t+1)=i+1+t:=ajk;rw[e];exact f.more (fun r hr=>hr) (fun w hw=>by simp[hw])
inductive Vg:Nat->List eY->Prop
 | nil (i:Nat):Vg i []
 | cons {i:Nat} {w:eY} {ws:List eY} (h:i<=w.i) (hs:Vg (w.i+1) ws):Vg i (w::ws)
theorem Vg.le {i j:Nat} {ws:List eY} (h:Vg j ws) (JL:i<=j):Vg i ws:=by
 cases h with
 | nil=>exact .nil _
 | cons h hs=>exact .cons ajk hs
theorem Vg.mem {i:Nat} {ws:List eY} (h:Vg i ws): ∀w ∈ ws,i<=w.i:=by
 induction h with
 | nil=>simp
 | cons h hs a=>
   intro w hw;rcases ajy.1 hw with rfl| hw
   .exact h
   have:=a w hw;omega
theorem nF.inc {i:Nat} {aL:List V} {vs:List Value} {rs:List Nat} {ws:List eY} (h:nF X μ r0 i aL vs rs ws):Vg i ws:=by
 induction h with
 | nil i=>exact .nil i
 | plain hp hs h a=>exact a.le ajk
 | sl _ _ _ _ _ _ h a=>exact .cons ajl a
 | ptr _ _ _ _ _ h a=>exact .cons ajl a
 | fresh _ _ h a=>exact .cons ajl a
theorem kJ {φ:Nat->Row} {i:Nat} {ws:List eY} (h:Vg i ws): ∀w ∈ ws,fK φ ws w.i=(match w.fresh with| none=>φ w.r| some _=> ⟨0,0,0⟩):=by
 induction h with
 | nil=>simp
 | @cons i w ws h hs a=>
   intro w' hw;rcases ajy.1 hw with rfl| hw
   .simp[fK]
   have:=hs.mem w' hw;rw[fK,if_neg ajk];exact a w' hw
theorem uB: ∀ {ws:List eY},distinct (ws.map (·.r))=true-> ∀w ∈ ws,∀w' ∈ ws,w.r=w'.r->w=w'
 | [],_,_,h,_,_,_=>by simp at h
 | w::ws,hd,a,ha,b,hb,e=>by
   simp only[List.map_cons,distinct,ajt,ake,ala,decide_eq_false_iff_not] at hd;rcases ajy.1 ha with ha| ha<;>rcases ajy.1 hb with hb| hb
   .rw[ha,hb]
   .exact absurd (ajL.2 ⟨b,hb,by rw[<-e,ha]⟩) hd.1
   .exact absurd (ajL.2 ⟨a,ha,by rw[e,hb]⟩) hd.1
   exact uB hd.2 a ha b hb e
def dv (X:Ctx) (μ:Mu) (rs:List Nat) (ws:List eY) (b:Nat):Prop:=
 X.Ym b\/ ∃r,r ∉ rs/\r ∉ ws.map (·.r)/\(μ.O r).es.isSome=true/\(μ.O r).fz=false/\(μ.φ r).cap≠0/\(μ.φ r).cj=b
theorem mJ {aL:List V} {vals:List Value} {rs:List Nat} {ws:List eY} (hp:nF X μ r0 0 aL vals rs ws) (j:Nat):
   (enter aL).O j=bJ\/
   (∃r es,(⟨j,r,none⟩:eY) ∈ ws/\(μ.O r).es=some es/\(μ.O r).fz=false/\V.al es=true/\((enter aL).O j).gen=0/\((enter aL).O j).sz=(μ.O r).sz/\((enter aL).O j).fz=false/\((enter aL).O j).es=some es/\fK μ.φ ws j=μ.φ r)\/
   (∃sz,(⟨j,r0+j,some sz⟩:eY) ∈ ws/\0 <sz/\((enter aL).O j).gen=0/\((enter aL).O j).sz=sz/\((enter aL).O j).fz=false/\((enter aL).O j).es=some []/\fK μ.φ ws j=⟨0,0,0⟩):=by
 obtain⟨hl,-,b⟩:=hp.at;have hi:=hp.inc;cases ha:aL[j]? with
 | none=>left;simp[enter,ha]
 | some a=>
   obtain⟨v,hv,hA⟩:=b j a ha;simp only[akg] at hA;cases hA with
   | plain ot hs=>
     left
     cases a<;>simp[V.az] at ot<;>simp[enter,ha]
   | @sl r g off len es v hw bC iC cT ot jg Cb=>
     right;left
     exact⟨r,es,hw,bC,iC,ot,by simp[enter,ha],by simp[enter,ha],by simp[enter,ha],by simp[enter,ha],by have:=kJ (φ:=μ.φ) hi _ hw;simpa using this⟩
   | @ptr r g idx off es v hw bC iC cT ot Cb=>
     right;left
     exact⟨r,es,hw,bC,iC,ot,by simp[enter,ha],by simp[enter,ha],by simp[enter,ha],by simp[enter,ha],by have:=kJ (φ:=μ.φ) hi _ hw;simpa using this⟩
   | @fresh sz v hw bM Cb=>
     right;right
     exact⟨sz,hw,bM,by simp[enter,ha],by simp[enter,ha],by simp[enter,ha],by simp[enter,ha],by have:=kJ (φ:=μ.φ) hi _ hw;simpa using this⟩
theorem yL {aL:List V} {vals:List Value} {rs:List Nat} {ws:List eY} (hp:nF X μ r0 0 aL vals rs ws) {b:Nat} (h: (⟨μ.w,fK μ.φ ws,(enter aL).O⟩:Mu).own b):
  ∃i r,(⟨i,r,none⟩:eY) ∈ ws/\(μ.O r).es.isSome=true/\(μ.O r).fz=false/\(μ.φ r).cap≠0/\(μ.φ r).cj=b:=by
 obtain⟨j,h1,h2,h3,h4⟩:=h;simp only at h1 h2 h3 h4;rcases mJ hp j with h| ⟨r,es,a,c,d,f,g,k,e,m,l⟩ | ⟨sz,a,c,d,f,g,k,e⟩
 .rw[h] at h1;simp[bJ] at h1
 .rw[l] at h3 h4;exact⟨j,r,a,by simp[c],d,h3,h4⟩
 rw[e] at h3;simp at h3
theorem PL {aL:List V} {vals:List Value} {rs:List Nat} {ws:List eY} (f:bq X μ) (hp:nF X μ r0 0 aL vals rs ws) (o9:apart rs (ws.map (·.r))=true) {b:Nat}
  (h:Own ⟨X.toTrEnv,dv X μ rs ws,X.tok⟩ ⟨μ.w,fK μ.φ ws,(enter aL).O⟩ b):
  Own X μ b/\ ∀r ∈ rs,(μ.O r).es.isSome=true->(μ.φ r).cap≠0->b≠(μ.φ r).cj:=by
 rcases h with h| h
 .obtain⟨i,r,h1,h2,h3,h4,h5⟩:=yL hp h;refine⟨.inl ⟨r,h2,h3,h4,h5⟩,fun r' d a c e=> ?_⟩;have bW:r≠r':=by rintro rfl;have:=ajx.1 o9 r (ajL.2 ⟨_,h1,rfl⟩);simp[d] at this
  exact f.inj r r' bW h2 a h4 c (h5.trans e)
 rcases h with h| ⟨r,h0,h1,h2,h3,h4,h5⟩
 .refine⟨.inr h,fun r' d a c e=>f.vE r' a c (e ▸ h)⟩
 refine⟨.inl ⟨r,h2,h3,h4,h5⟩,fun r' d a c e=> ?_⟩;have bW:r≠r':=fun e=>h0 (e ▸ d);exact f.inj r r' bW h2 a h4 c (h5.trans e)
theorem zD {aL:List V} {vals:List Value} {rs:List Nat} {ws:List eY} (p:bq X μ) (hp:nF X μ r0 0 aL vals rs ws) (o9:apart rs (ws.map (·.r))=true) (hd:distinct (ws.map (·.r))=true):
  vals.length=aL.length/\(∀t v,vals[t]? =some v->aj ⟨X.toTrEnv,dv X μ rs ws,X.tok⟩ ⟨μ.w,fK μ.φ ws,(enter aL).O⟩ ((enter aL).T t) v)/\
    bq ⟨X.toTrEnv,dv X μ rs ws,X.tok⟩ ⟨μ.w,fK μ.φ ws,(enter aL).O⟩:=by
 have x:=fun b=>PL (b:=b) p hp o9;obtain⟨hl,-,N⟩:=hp.at;have hi:=hp.inc;refine⟨hl.symm,fun t v hv=> ?_,?_⟩
 .have ha:t<aL.length:=by rw[hl];exact(ajp.1 hv).1
  obtain⟨v',AD,hA⟩:=N t aL[t] (aju ha);rw[hv] at AD;injection AD with AD;subst AD;have l:aL[t]? =some aL[t]:=aju ha;simp only[akg] at hA;generalize P:aL[t]=a at hA l;cases hA with
  | plain ot hs=>
    have: (enter aL).T t=a:=by cases a<;>simp[V.az] at ot<;>simp[enter,l]
    rw[this];exact hs _ _ rfl x
  | @sl r g off len es v hw bC iC cT ot jg Cb=>
    have d: (enter aL).T t= .sl t 0 off len:=by simp[enter,l]
    have q: ((enter aL).O t).gen=0/\((enter aL).O t).sz=(μ.O r).sz:=by simp[enter,l]
    have i:fK μ.φ ws t=μ.φ r:=by have:=kJ (φ:=μ.φ) hi _ hw;simpa using this
    rw[d];simp only[aj] at Cb ⊢;obtain⟨a,cap,rfl,D,E,y⟩:=Cb;refine⟨a,cap,rfl,D,akk _,fun _=> ?_⟩;rw[q.2,i];exact y cT
  | @ptr r g idx off es v hw bC iC cT ot Cb=>
    have d: (enter aL).T t= .ptr t 0 idx off:=by simp[enter,l]
    have q: ((enter aL).O t).gen=0/\((enter aL).O t).sz=(μ.O r).sz:=by simp[enter,l]
    have i:fK μ.φ ws t=μ.φ r:=by have:=kJ (φ:=μ.φ) hi _ hw;simpa using this
    rw[d];simp only[aj] at Cb ⊢;obtain⟨a,rfl,E,y⟩:=Cb;refine⟨a,rfl,akk _,fun _=> ?_⟩;rw[q.2,i];exact y cT
  | @fresh sz v hw bM Cb=>
    have d: (enter aL).T t= .sl t 0 0 0:=by simp[enter,l]
    have i:fK μ.φ ws t=⟨0,0,0⟩:=by have:=kJ (φ:=μ.φ) hi _ hw;simpa using this
    rw[d];obtain⟨a,rfl⟩:=Cb;simp only[aj];exact⟨a,0,rfl,ajw _,akk _,fun _=> ⟨by simp[enter,l,bM],by rw[i],.inl rfl⟩⟩
 refine⟨fun j es bC=> ?_,fun Q R bW h1 h2 h3 h4=> ?_,fun j h1 h2 hb=> ?_,fun b hb=> ?_⟩
 . rcases mJ hp j with h| ⟨r,es',s,f,z,k,A,n,o,F,u⟩ | ⟨sz,s,f,z,k,A,n,o⟩
   .simp only[h,bJ] at bC;simp at bC
   .simp only at bC;rw[F] at bC;injection bC with bC;subst bC;rcases p.ok r es' f with⟨D,E,y,q4⟩ | ⟨m1,m2,ob,m3,m4⟩
    .refine .inl ?_;unfold oA;simp only[n,u];refine⟨D,E,y,q4.imp id ?_⟩;rintro⟨c,T,vs,p1,p2,p3,p4⟩;exact⟨c,T,vs,p1,p2,bT (X:=X) (μ:=μ) (μ':=⟨μ.w,fK μ.φ ws,(enter aL).O⟩) rfl (fun b hb=> (x b hb).1) k p3,p4⟩
    refine .inr ?_;unfold xe;simp only[n,u];refine⟨m1,m2,ob,m3,?_⟩;rcases m4 with⟨ents,clock,d,q,i⟩ | m4| ⟨mo,since,nN,d,q,i⟩
    .exact .inl ⟨ents,clock,d,bT (X:=X) (μ:=μ) (μ':=⟨μ.w,fK μ.φ ws,(enter aL).O⟩) rfl (fun b hb=> (x b hb).1) k q,i⟩
    .exact .inr (.inl m4)
    subst q;refine .inr (.inr ⟨mo,since,nN,d,rfl,i.imp id ?_⟩);rintro⟨m,ents,B,C,G,H,I,J⟩;exact⟨m,ents,B,fun h=>C (x m h).1,G,H,I,bT (X:=X) (μ:=μ) (μ':=⟨μ.w,fK μ.φ ws,(enter aL).O⟩) rfl (fun b hb=> (x b hb).1) (by simpa [V.al,V.az] using k) J⟩
   simp only at bC;rw[n] at bC;injection bC with bC;subst bC;refine .inl ?_;unfold oA;simp only[k,o];exact⟨f,ajl,rfl,ajl⟩
 . simp only at h1 h2 h3 h4 ⊢
   rcases mJ hp Q with h| ⟨r,es',s,f,z,k,A,n,o,F,u⟩ | ⟨sz,s,f,z,k,A,n,o⟩
   .rw[h] at h1;simp[bJ] at h1
   .rcases mJ hp R with h| ⟨r',C1,B,C,G,H,I,J,L,W,S⟩ | ⟨sz,B,C,G,H,I,J,L⟩
    .rw[h] at h2;simp[bJ] at h2
    .rw[u] at h3 ⊢;rw[S] at h4 ⊢;refine p.inj r r' (fun e=> ?_) (by simp[f]) (by simp[C]) h3 h4;have:=uB hd _ s _ B e;injection this with d;exact bW d
    rw[L] at h4;simp at h4
   rw[o] at h3;simp at h3
 . simp only at h1 h2 hb
   rcases mJ hp j with h| ⟨r,es',s,f,z,k,A,n,o,F,u⟩ | ⟨sz,s,f,z,k,A,n,o⟩
   .rw[h] at h1;simp[bJ] at h1
   .rw[u] at h2 hb;rcases hb with hb| ⟨r',U,M,K,g3,g4,g5⟩
    .exact p.vE r (by simp[f]) h2 hb
    have bW:r'≠r:=fun e=>M (ajL.2 ⟨_,s,e.symm⟩);exact p.inj r' r bW K (by simp[f]) g4 h2 g5
   rw[o] at h2;simp at h2
 rcases hb with hb| ⟨r',U,M,K,g3,g4,g5⟩
 .exact p.blt b hb
 obtain⟨es',he⟩:=ajz.1 K;rw[<-g5];exact ig.cj (p.ok r' es' he) g4
end
end Go.AM
namespace Go.AM
open Go Go.RowKit
section
variable {X X':Ctx} {μ μ':Mu}
mutual
theorem weaken (j:X'.toTrEnv=X.toTrEnv) (k:X'.tok=X.tok) (hw:μ'.w=μ.w) (hφ:μ'.φ=μ.φ) (c: ∀r,(μ'.O r).gen=(μ.O r).gen/\(μ'.O r).sz=(μ.O r).sz) (d: ∀b,Own X' μ' b->Own X μ b): ∀ {x:V} {v:Value},aj X μ x v->aj X' μ' x v
 | .bool _,_,h| .int ..,_,h| .float _,_,h| .str _,_,h| .nilp,_,h| .nilfn,_,h| .nili,_,h| .nils,_,h=>by simpa [aj] using h
 | .any,_,_=>by simp[aj]
 | .own ..,_,h| .msl ..,_,h| .mptr ..,_,h=>by simp[aj] at h
 | .agg cs,_,h=>by
   simp only[aj] at h ⊢;obtain⟨h1,vs,rfl,h2⟩:=h;exact⟨h1,vs,rfl,oI j k hw hφ c d h2⟩
 | .tuple cs,_,h=>by
   simp only[aj] at h ⊢;obtain⟨vs,rfl,h2⟩:=h;exact⟨vs,rfl,oI j k hw hφ c d h2⟩
 | .bfn f cs,_,h=>by
   simp only[aj] at h ⊢;obtain⟨F,m,rfl,h1,h2⟩:=h;exact⟨F,m,rfl,by rw[j];exact h1,oI j k hw hφ c d h2⟩
 | .fn f cs,_,h=>by
   simp only[aj] at h ⊢;obtain⟨F,m,rfl,h1,h2⟩:=h;exact⟨F,m,rfl,by rw[j];exact h1,oI j k hw hφ c d h2⟩
 | .iface t x,_,h=>by
   simp only[aj] at h ⊢;obtain⟨F,y,rfl,h1,h2⟩:=h;exact⟨F,y,rfl,by rw[j];exact h1,weaken j k hw hφ c d h2⟩
 | .lit sz xs,_,h=>by
   simp only[aj] at h ⊢;obtain⟨h0,l,a,cap,vs,rfl,h1,h2,h3⟩:=h;refine⟨h0,l,a,cap,vs,rfl,h1,oI j k hw hφ c d h2,h3.imp id ?_⟩;rintro⟨b,o,rfl,hb,hs,hr⟩;exact⟨b,o,rfl,fun hh=>hb (d b hh),by rw[hw];exact hs,by rw[hw];exact hr⟩
 | .sl r g off len,_,h=>by
   simp only[aj] at h ⊢;rw[hφ,(c r).1,(c r).2];exact h
 | .ptr r g idx off,_,h=>by
   simp only[aj] at h ⊢;rw[hφ,(c r).1,(c r).2];exact h
 | .litk sz xs,_,h=>by
   simp only[aj] at h ⊢;obtain⟨h0,l,a,cap,vs,rfl,h1,h2,h3⟩:=h;refine⟨h0,l,a,cap,vs,rfl,h1,oI j k hw hφ c d h2,h3.imp id ?_⟩;rintro⟨rfl,hb,hs,hr⟩;rw[k];exact⟨rfl,fun hh=>hb (d _ hh),by rw[hw];exact hs,by rw[hw];exact hr⟩
 | .epk i sz e off,_,h=>by
   simp only[aj] at h ⊢;obtain⟨h0,l,x,rfl,hb,hs,h1,hr⟩:=h;rw[k];exact⟨h0,l,x,rfl,fun hh=>hb (d _ hh),by rw[hw];exact hs,weaken j k hw hφ c d h1,by rw[hw];exact hr⟩
 | .eptr e off,_,h=>by
   simp only[aj] at h ⊢;obtain⟨h0,l,b,o,sz,x,rfl,hb,hs,h1,hr⟩:=h;exact⟨h0,l,b,o,sz,x,rfl,fun hh=>hb (d b hh),by rw[hw];exact hs,weaken j k hw hφ c d h1,by rw[hw];exact hr⟩
 | .mp r g,_,h| .it r g,_,h=>by
   simp only[aj] at h ⊢;rw[hφ,(c r).1,(c r).2];exact h
 | .mlit es,_,h=>by simp only[aj] at h ⊢;obtain⟨h0,h⟩:=h;refine⟨h0,h.imp id ?_⟩;rintro⟨a,ents,clock,rfl,hb,hs,h1,h2⟩;exact⟨a,ents,clock,rfl,fun hh=>hb (d a hh),by rw[hw];exact hs,by rw[hw];exact h1,oI j k hw hφ c d h2⟩
theorem oI (a:X'.toTrEnv=X.toTrEnv) (c:X'.tok=X.tok) (hw:μ'.w=μ.w) (hφ:μ'.φ=μ.φ) (d: ∀r,(μ'.O r).gen=(μ.O r).gen/\(μ'.O r).sz=(μ.O r).sz) (e: ∀b,Own X' μ' b->Own X μ b): ∀ {xs:List V} {vs:List Value},ag X μ xs vs->ag X' μ' xs vs
 | [],[],_=>by simp[ag]
 | [],_::_,h=>by simp[ag] at h
 | _::_,[],h=>by simp[ag] at h
 | x::xs,v::vs,h=>by simp only[ag] at h ⊢;exact⟨weaken a c hw hφ d e h.1,oI a c hw hφ d e h.2⟩
end
mutual
theorem jq (a:X'.toTrEnv=X.toTrEnv): ∀ {x:V} {v:Value},V.isScalar x=true->aj X μ x v->aj X' μ' x v
 | .bool _,_,_,h| .int ..,_,_,h| .float _,_,_,h| .str _,_,_,h| .nilp,_,_,h| .nilfn,_,_,h| .nili,_,_,h| .nils,_,_,h=>by simpa [aj] using h
 | .any,_,hp,_| .own ..,_,hp,_| .msl ..,_,hp,_| .mptr ..,_,hp,_| .sl ..,_,hp,_| .ptr ..,_,hp,_| .lit ..,_,hp,_| .eptr ..,_,hp,_| .litk ..,_,hp,_| .epk ..,_,hp,_| .mp ..,_,hp,_| .it ..,_,hp,_| .mlit ..,_,hp,_| .bfn ..,_,hp,_| .fn ..,_,hp,_| .iface ..,_,hp,_=>by simp[V.isScalar] at hp
 | .agg cs,_,hp,h=>by
   simp only[aj] at h ⊢;obtain⟨h1,vs,rfl,h2⟩:=h;exact⟨h1,vs,rfl,bX a (by simpa [V.isScalar] using hp) h2⟩
 | .tuple cs,_,hp,h=>by simp only[aj] at h ⊢;obtain⟨vs,rfl,h2⟩:=h;exact⟨vs,rfl,bX a (by simpa [V.isScalar] using hp) h2⟩
theorem bX (a:X'.toTrEnv=X.toTrEnv): ∀ {xs:List V} {vs:List Value},V.bz xs=true->ag X μ xs vs->ag X' μ' xs vs
 | [],[],_,_=>by simp[ag]
 | [],_::_,_,h=>by simp[ag] at h
 | _::_,[],_,h=>by simp[ag] at h
 | x::xs,v::vs,hp,h=>by simp only[ag] at h ⊢;simp only[V.bz,ajt] at hp;exact⟨jq a hp.1 h.1,bX a hp.2 h.2⟩
end
end
structure LX (Y:Ctx) (μf μ1:Mu) (r j:Nat) (row:Row) (o:Obj):Prop where
 es: ∃es,o.es=some es/\V.al es=true/\0 <o.sz/\es.length<=row.cap/\es.all (bj · o.sz)=true/\
  (row.cap=0\/ ∃c T vs,μ1.w.heap[row.cj]? =some (.cells c T (0,0))/\row.base+row.cap*o.sz<=c.size/\ag Y μ1 es vs/\dL μ1.w row.cj row.base o.sz vs)
 live: (μ1.O j).es.isSome=true/\(μ1.O j).fz=false
 cj:row.cap≠0->(μ1.φ j).cap≠0/\row.cj=(μ1.φ j).cj
 gen: (μf.O r).gen<o.gen\/(o.gen=(μf.O r).gen/\row=μf.φ r/\o.sz=(μf.O r).sz)
 sc: (∀es,(μ1.O j).es=some es->V.bz es=true)-> ∀es,o.es=some es->V.bz es=true
structure ik (Y:Ctx) (μf μ1:Mu) (U:Nat->Prop) (A:Nat->Option Nat) (φ:Nat->Row) (O:Nat->Obj):Prop where
 Js: ∀r,A r=none->O r=μf.O r/\φ r=μf.φ r
 EY: ∀r j,A r=some j->LX Y μf μ1 r j (φ r) (O r)/\U j
 inj: ∀r1 r2 j,A r1=some j->A r2=some j->r1=r2
def eT (φ:Nat->Row) (O:Nat->Obj) (φ':Nat->Row) (O':Nat->Obj):Prop:=
 ∀r,(O r).gen<=(O' r).gen/\((O' r).gen=(O r).gen->φ' r=φ r/\(O' r).sz=(O r).sz)
theorem eT.refl (φ:Nat->Row) (O:Nat->Obj):eT φ O φ O:=fun _=> ⟨ajw _,fun _=> ⟨rfl,rfl⟩⟩
theorem eT.trans {φ φ' φ'':Nat->Row} {O O' O'':Nat->Obj} (h:eT φ O φ' O') (k:eT φ' O' φ'' O''):eT φ O φ'' O'':=fun r=>by obtain⟨h1,h2⟩:=h r;obtain⟨a,b⟩:=k r;refine⟨ajQ h1 a,fun e=> ?_⟩;obtain⟨a1,c⟩:=h2 ajk;obtain⟨b1,d⟩:=b ajk;exact⟨b1.trans a1,d.trans c⟩
def qO (μ1:Mu) (φ:Nat->Row) (O:Nat->Obj) (i r g:Nat):Prop:=g<=(O r).gen/\((O r).gen=g->φ r=μ1.φ i/\(O r).sz=(μ1.O i).sz)
theorem qO.mono {μ1:Mu} {φ φ':Nat->Row} {O O':Nat->Obj} {i r g:Nat} (h:qO μ1 φ O i r g) (m:eT φ O φ' O'):qO μ1 φ' O' i r g:=by obtain⟨a,b⟩:=m r;refine⟨ajQ h.1 a,fun e=> ?_⟩;have:=h.1;obtain⟨a1,c⟩:=b ajk;obtain⟨b1,d⟩:=h.2 ajk;exact⟨a1.trans b1,c.trans d⟩
theorem ik.take {Y:Ctx} {μf μ1:Mu} {U U':Nat->Prop} {A:Nat->Option Nat} {φ:Nat->Row} {O:Nat->Obj} (h:ik Y μf μ1 U A φ O) {r j:Nat} {row:Row} {o:Obj} (k: ¬U j) (l: ∀i,U i->U' i) (f:U' j)
  (ht:LX Y μf μ1 r j row o):ik Y μf μ1 U' (dh A r (some j)) (dh φ r row) (dh O r o) where
 Js:=fun r' e=>by
  by_cases e':r'=r
  .subst e';simp[aD] at e
  rw[bk _ _ e'] at e ⊢;rw[bk _ _ e'];exact h.Js r' e
 EY:=fun r' g e=>by
  by_cases e':r'=r
  .subst e';simp only[aD] at e ⊢;injection e with e;subst e;exact⟨ht,f⟩
  rw[bk _ _ e'] at e ⊢;rw[bk _ _ e'];obtain⟨m,n⟩:=h.EY r' g e;exact⟨m,l _ n⟩
 inj:=fun r1 r2 g a b=>by
  by_cases c:r1=r<;>by_cases d:r2=r
  .rw[c,d]
  .subst c;simp only[aD] at a;injection a with a;subst a;rw[bk _ _ d] at b;exact absurd (h.EY r2 _ b).2 k
  .subst d;simp only[aD] at b;injection b with b;subst b;rw[bk _ _ c] at a;exact absurd (h.EY r1 _ a).2 k
  rw[bk _ _ c] at a;rw[bk _ _ d] at b;exact h.inj r1 r2 g a b
theorem eT.dh {φ:Nat->Row} {O:Nat->Obj} {r:Nat} {row:Row} {o:Obj} (h: (O r).gen<o.gen\/(o.gen=(O r).gen/\row=φ r/\o.sz=(O r).sz)):eT φ O (dh φ r row) (dh O r o):=fun r'=>by
 by_cases e:r'=r
 .subst e;simp only[aD];rcases h with h| ⟨h1,h2,h3⟩
  .exact⟨ajk,fun e=>ajk⟩
  exact⟨ajk,fun _=> ⟨h2,h3⟩⟩
 simp[bk _ _ e]
end Go.AM
namespace Go.AM
open Go Go.RowKit
section
variable {X Y:Ctx} {μ μf μ1:Mu} {r0:Nat} {C:bB} {T:Nat->V}
theorem vz (h1:bq Y μ1) {r i:Nat} {es:List V} {o:Obj} (h0:0 < (μ1.O i).sz) (bC: (μ1.O i).es=some es) (iC: (μ1.O i).fz=false) (hp:V.al es=true) (a:o.es=some es) (bM:o.sz=(μ1.O i).sz)
  (hg: (μf.O r).gen<o.gen\/(o.gen=(μf.O r).gen/\μ1.φ i=μf.φ r/\o.sz=(μf.O r).sz)):LX Y μf μ1 r i (μ1.φ i) o:=by
 obtain⟨b,c,d,e⟩:=h1.row i es bC h0;refine⟨⟨es,a,hp,by rw[bM];exact b,c,by rw[bM];exact d,?_⟩,⟨by simp[bC],iC⟩,fun hc=> ⟨hc,rfl⟩,hg,fun hs es' he=> ?_⟩
 .rw[bM];exact e
 rw[a] at he;injection he with he;subst he;exact hs _ bC
theorem mA {O:Nat->Obj} {i sz off len:Nat} {b:List V} {aL:List V} {outs:List (Nat×List V)} (h:cV O i (.msl sz b off len::aL)=some outs):
  ∃es a,(O i).es=some es/\cV O (i+1) aL=some a/\(O i).fz=false/\(O i).sz=sz/\V.al es=true/\outs=((O i).gen,es)::a:=by
 simp only[cV] at h;split at h
 .rename_i es a h1 h2;split at h
  .rename_i hc;injection h with h;exact⟨es,a,h1,h2,hc.1,hc.2.1,hc.2.2,h.symm⟩
  simp at h
 simp at h
theorem uC {O:Nat->Obj} {i sz off len:Nat} {b:List V} {aL:List V} {outs:List (Nat×List V)} (h:cV O i (.mptr sz b off len::aL)=some outs):
  ∃es a,(O i).es=some es/\cV O (i+1) aL=some a/\(O i).fz=false/\(O i).sz=sz/\V.al es=true/\outs=((O i).gen,es)::a:=by
 simp only[cV] at h;split at h
 .rename_i es a h1 h2;split at h
  .rename_i hc;injection h with h;exact⟨es,a,h1,h2,hc.1,hc.2.1,hc.2.2,h.symm⟩
  simp at h
 simp at h
theorem sE {O:Nat->Obj} {i:Nat} {a:V} {aL:List V} (h:V.az a=true):cV O i (a::aL)=cV O (i+1) aL:=by cases a<;>simp[V.az] at h<;>rfl
theorem uD (h1:bq Y μ1) {w0:List eY} (I: ∀w ∈ w0,w.fresh=none->(μ1.O w.i).gen=0->μ1.φ w.i=μ.φ w.r) (hφ:μf.φ=μ.φ) (YB: ∀w ∈ w0,μf.O w.r=μ.O w.r) {S:Nat->Prop} (F: ∀w ∈ w0,S w.i):
   ∀ {i:Nat} {aL:List V} {vs:List Value} {rs:List Nat} {ws:List eY},nF X μ r0 i aL vs rs ws-> ∀ {outs:List (Nat×List V)} {A:Nat->Option Nat} {φ:Nat->Row} {O:Nat->Obj} {k:List (Nat×Nat×Nat)->Act} {p:V×St},
    cV μ1.O i aL=some outs->ik Y μf μ1 (fun j=>j<i/\S j) A φ O->(∀w ∈ ws,w ∈ w0)->(∀w ∈ ws,A w.r=none)->distinct (ws.map (·.r))=true->(fY ws outs k).run C ⟨T,O⟩=some p->
    ∃A' φ' O' gs,(k gs).run C ⟨T,O'⟩=some p/\ik Y μf μ1 (fun j=>j<i+aL.length/\S j) A' φ' O'/\eT φ O φ' O'/\(∀w ∈ ws,A' w.r≠none)/\(∀r,A r≠none->A' r≠none)/\
       ∀x ∈ gs,qO μ1 φ' O' x.1 x.2.1 x.2.2:=by
 intro i aL vs rs ws hp;induction hp with
 | nil i=>
   intro outs A φ O k p d ht _ _ _ c;simp[cV] at d;subst d;exact⟨A,φ,O,[],c,by simpa using ht,eT.refl _ _,ajl,fun _ h=>h,ajl⟩
 | @plain i a v rs rs' aL vs ws ot hs h q=>
   intro outs A φ O k p d ht hw hA hd c;rw[sE ot] at d;have s:ik Y μf μ1 (fun j=>j<i+1/\S j) A φ O:=⟨ht.Js,fun r j e=> ⟨(ht.EY r j e).1,⟨by have:=(ht.EY r j e).2.1;omega,(ht.EY r j e).2.2⟩⟩,ht.inj⟩;obtain⟨A',φ',O',gs,t,u,n,y,o,z⟩:=q d s hw hA hd c;refine⟨A',φ',O',gs,t,?_,n,y,o,z⟩;have e:i+(a::aL).length=i+1+aL.length:=by simp;omega
   rw[e];exact u
 | @sl i r g off len G v rs aL vs ws bC iC cT ot jg hv h q=>
   intro outs A φ O k p d ht hw hA hd c;obtain⟨es,J,o1,o2,o3,f,o5,rfl⟩:=mA d;simp only[fY,Act.run] at c;have YC:=hA ⟨i,r,none⟩ ajl;simp only at YC;obtain⟨l,E⟩:=ht.Js r YC;have m:μf.O r=μ.O r:=YB ⟨i,r,none⟩ (hw _ ajl);have CE: (μf.O r).gen< (O r).gen+(μ1.O i).gen\/((O r).gen+(μ1.O i).gen=(μf.O r).gen/\μ1.φ i=μf.φ r/\(O r).sz=(μf.O r).sz):=by
    rw[l];by_cases H: (μ1.O i).gen=0
    .  right;refine⟨ajk,?_,rfl⟩
       rw[hφ];exact I ⟨i,r,none⟩ (hw _ ajl) rfl H
    left;omega
   have JM:LX Y μf μ1 r i (μ1.φ i) {O r with gen:=(O r).gen+(μ1.O i).gen,es:=some es}:=
    vz h1 (by rw[f];simp only[aj] at hv;obtain⟨_,_,_,_,_,hh⟩:=hv;exact(hh cT).1) o1 o3 o5 rfl (by simp only[l,m];exact f.symm) CE
   have s:=ht.take (U':=fun j=>j<i+1/\S j) ajl (fun j B=> ⟨ajk,B.2⟩) ⟨ajl,F ⟨i,r,none⟩ (hw _ ajl)⟩ JM;have hm:eT φ O (dh φ r (μ1.φ i)) (dh O r {O r with gen:=(O r).gen+(μ1.O i).gen,es:=some es}):=by refine eT.dh ?_;rw[E];have:=CE;rw[<-l] at this;exact this.imp id fun hh=> ⟨hh.1,hh.2.1,hh.2.2⟩
   simp only[List.map_cons,distinct,ajt,ake,ala,decide_eq_false_iff_not] at hd;obtain⟨A',φ',O',gs,t,u,n,y,o,z⟩:=q o2 s (fun w b=>hw w (by simp[b])) (fun w b=>by have:w.r≠r:=fun e=>hd.1 (ajL.2 ⟨w,b,e⟩);rw[bk _ _ this];exact hA w (by simp[b])) hd.2 c;refine⟨A',φ',O',_,t,?_,hm.trans n,fun w b=> ?_,fun r' D=>o r' ?_,fun x hx=> ?_⟩
   .have e:i+(V.msl (μ.O r).sz G off len::aL).length=i+1+aL.length:=by simp;omega
    rw[e];exact u
   .rcases ajy.1 b with rfl| b
    .exact o r (by simp[aD])
    exact y w b
   .by_cases e:r'=r
    .subst e;simp[aD]
    rw[bk _ _ e];exact D
   rcases ajy.1 hx with rfl| hx
   .  refine qO.mono ⟨?_,fun _=> ?_⟩ n
      .simp[aD]
      simp only[aD];exact⟨trivial,by rw[l,m];exact f.symm⟩
   exact z x hx
 | @ptr i r g idx off G v rs aL vs ws bC iC cT ot hv h q=>
   intro outs A φ O k p d ht hw hA hd c;obtain⟨es,J,o1,o2,o3,f,o5,rfl⟩:=uC d;simp only[fY,Act.run] at c;have YC:=hA ⟨i,r,none⟩ ajl;simp only at YC;obtain⟨l,E⟩:=ht.Js r YC;have m:μf.O r=μ.O r:=YB ⟨i,r,none⟩ (hw _ ajl);have CE: (μf.O r).gen< (O r).gen+(μ1.O i).gen\/((O r).gen+(μ1.O i).gen=(μf.O r).gen/\μ1.φ i=μf.φ r/\(O r).sz=(μf.O r).sz):=by
    rw[l];by_cases H: (μ1.O i).gen=0
    .  right;refine⟨ajk,?_,rfl⟩
       rw[hφ];exact I ⟨i,r,none⟩ (hw _ ajl) rfl H
    left;omega
   have JM:LX Y μf μ1 r i (μ1.φ i) {O r with gen:=(O r).gen+(μ1.O i).gen,es:=some es}:=
    vz h1 (by rw[f];simp only[aj] at hv;obtain⟨_,_,_,hh⟩:=hv;exact(hh cT).1) o1 o3 o5 rfl (by simp only[l,m];exact f.symm) CE
   have s:=ht.take (U':=fun j=>j<i+1/\S j) ajl (fun j B=> ⟨ajk,B.2⟩) ⟨ajl,F ⟨i,r,none⟩ (hw _ ajl)⟩ JM;have hm:eT φ O (dh φ r (μ1.φ i)) (dh O r {O r with gen:=(O r).gen+(μ1.O i).gen,es:=some es}):=by refine eT.dh ?_;rw[E];have:=CE;rw[<-l] at this;exact this.imp id fun hh=> ⟨hh.1,hh.2.1,hh.2.2⟩
   simp only[List.map_cons,distinct,ajt,ake,ala,decide_eq_false_iff_not] at hd;obtain⟨A',φ',O',gs,t,u,n,y,o,z⟩:=q o2 s (fun w b=>hw w (by simp[b])) (fun w b=>by have:w.r≠r:=fun e=>hd.1 (ajL.2 ⟨w,b,e⟩);rw[bk _ _ this];exact hA w (by simp[b])) hd.2 c;refine⟨A',φ',O',_,t,?_,hm.trans n,fun w b=> ?_,fun r' D=>o r' ?_,fun x hx=> ?_⟩
   .have e:i+(V.mptr (μ.O r).sz G idx off::aL).length=i+1+aL.length:=by simp;omega
    rw[e];exact u
   .rcases ajy.1 b with rfl| b
    .exact o r (by simp[aD])
    exact y w b
   .by_cases e:r'=r
    .subst e;simp[aD]
    rw[bk _ _ e];exact D
   rcases ajy.1 hx with rfl| hx
   .  refine qO.mono ⟨?_,fun _=> ?_⟩ n
      .simp[aD]
      simp only[aD];exact⟨trivial,by rw[l,m];exact f.symm⟩
   exact z x hx
 | @fresh i sz v rs aL vs ws bM hv h q=>
   intro outs A φ O k p d ht hw hA hd c;obtain⟨es,J,o1,o2,o3,f,o5,rfl⟩:=mA d;simp only[fY,Act.run] at c;have YC:=hA ⟨i,r0+i,some sz⟩ ajl;simp only at YC;obtain⟨l,E⟩:=ht.Js (r0+i) YC;have JM:LX Y μf μ1 (r0+i) i (μ1.φ i) {gen:=(O (r0+i)).gen+1,sz,arr:=true,fz:=false,es:=some es}:=
    vz h1 (by rw[f];exact bM) o1 o3 o5 rfl f.symm (.inl (by simp only[l];omega))
   have s:=ht.take (U':=fun j=>j<i+1/\S j) ajl (fun j B=> ⟨ajk,B.2⟩) ⟨ajl,F ⟨i,r0+i,some sz⟩ (hw _ ajl)⟩ JM;have hm:eT φ O (dh φ (r0+i) (μ1.φ i)) (dh O (r0+i) {gen:=(O (r0+i)).gen+1,sz,arr:=true,fz:=false,es:=some es}):=
    eT.dh (.inl ajl)
   simp only[List.map_cons,distinct,ajt,ake,ala,decide_eq_false_iff_not] at hd;obtain⟨A',φ',O',gs,t,u,n,y,o,z⟩:=q o2 s (fun w b=>hw w (by simp[b])) (fun w b=>by have:w.r≠r0+i:=fun e=>hd.1 (ajL.2 ⟨w,b,e⟩);rw[bk _ _ this];exact hA w (by simp[b])) hd.2 c;refine⟨A',φ',O',_,t,?_,hm.trans n,fun w b=> ?_,fun r' D=>o r' ?_,fun x hx=> ?_⟩
   .have e:i+(V.msl sz [] 0 0::aL).length=i+1+aL.length:=by simp;omega
    rw[e];exact u
   .rcases ajy.1 b with rfl| b
    .exact o (r0+i) (by simp[aD])
    exact y w b
   .by_cases e:r'=r0+i
    .subst e;simp[aD]
    rw[bk _ _ e];exact D
   rcases ajy.1 hx with rfl| hx
   .  refine qO.mono ⟨?_,fun _=> ?_⟩ n
      .simp[aD]
      simp only[aD];exact⟨trivial,f.symm⟩
   exact z x hx
theorem Uu {O:Nat->Obj} {i:Nat} {aL:List V} {vs:List Value} {rs:List Nat} {ws:List eY} (hp:nF X μ r0 i aL vs rs ws): ∀ {outs:List (Nat×List V)},cV O i aL=some outs->
   ∀w ∈ ws,∃g es,(O w.i).es=some es/\(g,es) ∈ outs:=by
 induction hp with
 | nil i=>intro outs _ w hw;simp at hw
 | plain ot hs h b=>intro outs a;rw[sE ot] at a;exact b a
 | @sl i r g off len j v rs aL vs ws bC iC cT ot jg hv h b=>
   intro outs a w hw;obtain⟨es,e,o1,o2,o3,f,o5,rfl⟩:=mA a;rcases ajy.1 hw with rfl| hw
   .exact⟨_,es,o1,akv⟩
   obtain⟨g,es',c,d⟩:=b o2 w hw;exact⟨g,es',c,by simp[d]⟩
 | @ptr i r g idx off j v rs aL vs ws bC iC cT ot hv h b=>
   intro outs a w hw;obtain⟨es,e,o1,o2,o3,f,o5,rfl⟩:=uC a;rcases ajy.1 hw with rfl| hw
   .exact⟨_,es,o1,akv⟩
   obtain⟨g,es',c,d⟩:=b o2 w hw;exact⟨g,es',c,by simp[d]⟩
 | @fresh i sz v rs aL vs ws bM hv h b=>
   intro outs a w hw;obtain⟨es,e,o1,o2,o3,f,o5,rfl⟩:=mA a;rcases ajy.1 hw with rfl| hw
   .exact⟨_,es,o1,akv⟩
   obtain⟨g,es',c,d⟩:=b o2 w hw;exact⟨g,es',c,by simp[d]⟩
end
end Go.AM
namespace Go.AM
open Go Go.RowKit
def after (Y:Ctx) (μ1:Mu) (n:Nat) (bG:Bool) (b:Nat):Prop:=
 Y.Ym b\/ ∃j,(bG=true\/j<n)/\(μ1.O j).es.isSome=true/\(μ1.O j).fz=false/\(μ1.φ j).cap≠0/\(μ1.φ j).cj=b
def quiet (μ1:Mu) (φ:Nat->Row) (O:Nat->Obj):Mu:=⟨μ1.w,φ,fun r=> {O r with fz:=true}⟩
theorem yM {μ1:Mu} {φ:Nat->Row} {O:Nat->Obj} {b:Nat}: ¬ (quiet μ1 φ O).own b:=by rintro⟨r,_,h,_⟩;simp[quiet] at h
theorem Jt {μ1:Mu} {φ φ':Nat->Row} {O O':Nat->Obj} (h:eT φ O φ' O'):Le (quiet μ1 φ O) (quiet μ1 φ' O'):=
 ⟨ajw _,fun _ _ _=> ⟨rfl,yM⟩,fun r=> (h r).1,fun r e=> (h r).2 e,rfl,rfl,rfl,fun _ _=>rfl⟩
theorem lL: ∀ {aL c:List Nat},distinct (aL++c)=true->distinct aL=true/\distinct c=true/\ ∀b ∈ c,b ∉ aL
 | [],c,h=> ⟨rfl,h,fun _ _=>ajl⟩
 | a::aL,c,h=>by simp only[ajK,distinct,ajt,ake,ala,decide_eq_false_iff_not,ajD,not_or] at h ⊢;obtain⟨h1,h2⟩:=h;obtain⟨d,f,g⟩:=lL h2;refine⟨⟨h1.1,d⟩,f,fun b hb=> ?_⟩;simp only[ajy,not_or];exact⟨fun e=>h1.2 (e ▸ hb),g b hb⟩
theorem zF {i r g:Nat}: ∀ {gs:List (Nat×Nat×Nat)},qc i gs=some (r,g)->(i,r,g) ∈ gs
 | [],h=>by simp[qc] at h
 | (j,r',a)::gs,h=>by
   simp only[qc] at h;split at h
   . rename_i e
     subst e;simp only[ajq,ajv] at h;simp[h.1,h.2]
   exact aka _ (zF h)
theorem sF: ∀ {es:List V} (n:Nat),V.bz es=true->V.bz (es.take n)=true
 | _,0,_=>by simp[V.bz]
 | [],_+1,_=>by simp[V.bz]
 | x::xs,n+1,h=>by simp only[V.bz,ajt] at h;simp only[akn,V.bz,ajt];exact⟨h.1,sF n h.2⟩
theorem sG: ∀ {es:List V} (n:Nat),V.bz es=true->V.bz (es.drop n)=true
 | _,0,h=>by simpa using h
 | [],_+1,_=>by simp[V.bz]
 | x::xs,n+1,h=>by simp only[V.bz,ajt] at h;simpa using sG n h.2
theorem yN {es:List V} {off len:Nat} (h:V.bz es=true):V.bz (aN es off len)=true:=sF _ (sG _ h)
section
variable {Y:Ctx} {μf μ1:Mu} {n:Nat} {bG:Bool} {C:bB} {T:Nat->V}
theorem mK {φ:Nat->Row} {O:Nat->Obj} {b:Nat} (h:Own ⟨Y.toTrEnv,after Y μ1 n bG,Y.tok⟩ (quiet μ1 φ O) b):Own Y μ1 b:=by
 rcases h with h| h| ⟨j,_,h1,h2,h3,h4⟩
 .exact absurd h yM
 .exact .inr h
 exact .inl ⟨j,h1,h2,h3,h4⟩
theorem kK (h1:bq Y μ1) {U:Nat->Prop} {A:Nat->Option Nat} {φ:Nat->Row} {O:Nat->Obj} {gs:List (Nat×Nat×Nat)} {c:V} {rs:List Nat} {val:Value} {r:Nat} {k:V->Act} {p:V×St}
   (ht:ik Y μf μ1 U A φ O) (s: ∀r,(μf.O r).gen<=(O r).gen) (I8: ∀x ∈ gs,qO μ1 φ O x.1 x.2.1 x.2.2) (he:Xy Y μ1 n c rs val) (I: ∀j ∈ rs,n<=j-> ¬U j) (d: (dY bG r gs c k).run C ⟨T,O⟩=some p):
   ∃A' φ' O' c',(k c').run C ⟨T,O'⟩=some p/\ik Y μf μ1 (fun j=>U j\/(bG=true/\j ∈ rs)) A' φ' O'/\eT φ O φ' O'/\(∀r,A r≠none->A' r≠none)/\
     aj ⟨Y.toTrEnv,after Y μ1 n bG,Y.tok⟩ (quiet μ1 φ' O') c' val/\(c.j5=true->c'.aZ=true):=by
 have JM:ik Y μf μ1 (fun j=>U j\/(bG=true/\j ∈ rs)) A φ O:=⟨ht.Js,fun r j e=> ⟨(ht.EY r j e).1,.inl (ht.EY r j e).2⟩,ht.inj⟩;cases he with
 | pure hp hv=>
   refine⟨A,φ,O,c,?_,JM,eT.refl _ _,fun _ h=>h,eA (X:=Y) (μ:=μ1) (μ':=quiet μ1 φ O) rfl (fun b=>mK) hp hv,fun hc=> ?_⟩
   .cases c<;>simp[V.az] at hp<;>simpa [dY,V.az,hp] using d
   cases c<;>simp_all[V.az,V.j5]
 | @sl j g off len es val hr bC hg hl hv=>
   simp only[dY] at d;split at d
   . rename_i r' P U4
     obtain⟨J,K⟩:=I8 _ (zF U4);refine⟨A,φ,O,_,d,JM,eT.refl _ _,fun _ h=>h,?_,fun _=>rfl⟩;simp only[aj] at hv ⊢;obtain⟨a,cap,rfl,u,L,o⟩:=hv;refine⟨a,cap,rfl,u,J,fun e=> ?_⟩;obtain⟨B,D⟩:=K e;simp only[quiet] at B D ⊢;rw[B,D];exact o hg
   exact absurd d aq
 | @own j g off len es val hr bC iC hg hl hp hv=>
   simp only[dY] at d;have a0:0 < (μ1.O j).sz:=by simp only[aj] at hv;obtain⟨_,_,_,_,_,hh⟩:=hv;exact(hh hg).1
   obtain⟨u,L,o,q⟩:=h1.row j es bC a0;have l: (aN es off len).length=len:=by simp[aN];omega
   have f: (aN es off len).all (bj · (μ1.O j).sz)=true:=by simp only[ajx] at o ⊢;exact fun x hx=>o x (aki (ajN hx))
   have E: (aN es off len).all V.dw=true:=by simp only[ajx] at f ⊢;exact fun x hx=> (cF (f x hx)).1
   simp only[aj] at hv;obtain⟨a,cap,rfl,s1,s2,s3⟩:=hv;obtain⟨-,a1,F⟩:=s3 hg;cases m:bG with
   | true=>
     subst m;rw[if_pos rfl] at d;simp only[Act.run] at d;have Q: (⟨(μ1.φ j).cj,(μ1.φ j).base+off*(μ1.O j).sz,cap⟩:Row).cap=cap:=rfl;have v:LX Y μf μ1 r j ⟨(μ1.φ j).cj,(μ1.φ j).base+off*(μ1.O j).sz,cap⟩ {gen:=(O r).gen+1,sz:=(μ1.O j).sz,arr:=true,fz:=false,es:=some (aN es off len)}:=by
      refine⟨⟨_,rfl,hp,u,by simp only[l];exact s1,f,?_⟩,⟨by simp[bC],iC⟩,fun hc=> ⟨?_,rfl⟩,.inl ?_,fun hs es' he=> ?_⟩
      .rcases q with q| ⟨G,TT,vs,w,H,y,z⟩
       .left;simp only;omega
       right
       refine⟨G,TT,(vs.drop off).take len,w,?_,ag.take _ (ag.drop _ y),(z.drop off).take len⟩;simp only;rw[<-a1,aj4] at H;omega
      .simp only at hc;omega
      .have:=s r;simp only;omega
      simp only at he;injection he with he;subst he;exact yN (hs es bC)
     have hm:eT φ O (dh φ r ⟨(μ1.φ j).cj,(μ1.φ j).base+off*(μ1.O j).sz,cap⟩) (dh O r {gen:=(O r).gen+1,sz:=(μ1.O j).sz,arr:=true,fz:=false,es:=some (aN es off len)}):=
      eT.dh (.inl ajl)
     refine⟨_,_,_,_,d,ht.take (U':=fun i=>U i\/(True/\i ∈ [j])) (I j ajl hr) (fun i hi=> .inl hi) ajl v |> fun t=>by simpa using t,hm,fun r' M=> ?_,?_,fun _=>rfl⟩
     .by_cases e:r'=r
      .subst e;simp[aD]
      rw[bk _ _ e];exact M
     simp only[aj,quiet,aD];refine⟨a,cap,by rw[l],by rw[l];exact s1,ajw _,fun _=> ⟨a0,ajk,F.imp id fun e=> ?_⟩⟩;rw[e];simp
   | false=>
     subst m;rw[if_neg ajl] at d;refine⟨A,φ,O,_,d,JM,eT.refl _ _,fun _ h=>h,?_,fun _=>rfl⟩;simp only[aj];by_cases JT:len=0
     .exact⟨hp,E,a,cap,[],by rw[l],ajk,by simp[aN,JT,ag],.inl (by simpa using l.trans JT)⟩
     rcases q with q| ⟨G,TT,vs,w,H,y,z⟩
     .omega
     refine⟨hp,E,a,cap,(vs.drop off).take len,by rw[l],ajk,bT (X:=Y) (μ:=μ1) (μ':=quiet μ1 φ O) rfl (fun b=>mK) hp (ag.take _ (ag.drop _ y)),
      .inr ⟨_,_,F.resolve_left ajk,?_,(ajs.1 w).1,(z.drop off).take len⟩⟩
     rintro(h| h| ⟨j',k0,k1,k2,k3,k4⟩)
     .exact yM h
     .exact h1.vE j (by simp[bC]) ajk h
     have N:j'<n:=by simpa using k0
     exact h1.inj j' j ajk k1 (by simp[bC]) k3 ajk k4
theorem ik.lo {U:Nat->Prop} {A:Nat->Option Nat} {φ:Nat->Row} {O:Nat->Obj} (h:ik Y μf μ1 U A φ O) (r:Nat): (μf.O r).gen<=(O r).gen:=by
 cases e:A r with
 | none=>rw[(h.Js r e).1];exact ajw _
 | some j=>
   rcases(h.EY r j e).1.gen with h| ⟨h,_⟩ <;>omega
def GL (Y:Ctx) (μf μ1:Mu) (C:bB) (T:Nat->V) (U:Nat->Prop) (A:Nat->Option Nat) (φ:Nat->Row) (O:Nat->Obj) {α:Type} (k:α->Act) (p:V×St) (G: (Nat->Row)->(Nat->Obj)->α->Prop):Prop:=
 ∃A' φ' O' a,(k a).run C ⟨T,O'⟩=some p/\ik Y μf μ1 U A' φ' O'/\eT φ O φ' O'/\(∀r,A r≠none->A' r≠none)/\G φ' O' a
theorem ik.more {U U':Nat->Prop} {A:Nat->Option Nat} {φ:Nat->Row} {O:Nat->Obj} (h:ik Y μf μ1 U A φ O) (a: ∀j,U j->U' j):ik Y μf μ1 U' A φ O:=
 ⟨h.Js,fun r j e=> ⟨(h.EY r j e).1,a _ (h.EY r j e).2⟩,h.inj⟩
theorem xu (h1:bq Y μ1): ∀ {U:Nat->Prop} {A:Nat->Option Nat} {φ:Nat->Row} {O:Nat->Obj} {gs:List (Nat×Nat×Nat)} {cs:List V} {rs:List Nat} {vals:List Value} {r:Nat} {k:List V->Act} {p:V×St},
   ik Y μf μ1 U A φ O->(∀x ∈ gs,qO μ1 φ O x.1 x.2.1 x.2.2)->Dw Y μ1 n cs rs vals->(∀j ∈ rs,n<=j-> ¬U j)->distinct rs=true->(fR bG r gs cs k).run C ⟨T,O⟩=some p->
   GL Y μf μ1 C T (fun j=>U j\/(bG=true/\j ∈ rs)) A φ O k p fun φ' O' g=>ag ⟨Y.toTrEnv,after Y μ1 n bG,Y.tok⟩ (quiet μ1 φ' O') g vals/\(cs.all V.j5=true->g.all V.aZ=true):=by
 intro U A φ O gs cs rs vals r k p ht I8 he i hd d;induction he generalizing U A φ O r k with
 | nil=>exact⟨A,φ,O,[],d,ht.more fun j h=> .inl h,eT.refl _ _,fun _ h=>h,by simp[ag],fun _=>rfl⟩
 | @cons c rs rs' val cs vals h hs o=>
   obtain⟨d1,q,s⟩:=lL hd;simp only[fR] at d;obtain⟨A1,φ1,O1,c1,t,u,l,v,w,y⟩:=kK h1 ht ht.lo I8 h (fun j a=>i j (by simp[a])) d;obtain⟨A2,φ2,O2,f,z,B,m,D,E,F⟩:=o u (fun x hx=> (I8 x hx).mono l) (fun j a hn b=>by
    rcases b with b| ⟨_,b⟩
    .exact i j (by simp[a]) hn b
    .exact s j a b) q t
   refine⟨A2,φ2,O2,c1::f,z,B.more fun j a=> ?_,l.trans m,fun r' h=>D r' (v r' h),?_,?_⟩
   .rcases a with(a| ⟨e,a⟩) | ⟨e,a⟩
    .exact .inl a
    .exact .inr ⟨e,by simp[a]⟩
    exact .inr ⟨e,by simp[a]⟩
   .simp only[ag];exact⟨aj.mono (Jt m) w,E⟩
   simp only[ajM,ajt];exact fun hc=> ⟨y hc.1,F hc.2⟩
theorem kL: ∀ {cs:List V},V.al cs=true->cs.all V.j5=true->cs.all V.aZ=true
 | [],_,_=>rfl
 | a::aL,hp,hc=>by simp only[V.al,ajt] at hp;simp only[ajM,ajt] at hc ⊢;refine⟨?_,kL hp.2 hc.2⟩;have h1:=hp.1;have h2:=hc.1;cases a<;>simp_all[V.az,V.j5]
theorem uG (h1:bq Y μ1) {U:Nat->Prop} {A:Nat->Option Nat} {φ:Nat->Row} {O:Nat->Obj} {gs:List (Nat×Nat×Nat)} {c:V} {rs:List Nat} {val:Value} {r:Nat} {k:V->Act} {p:V×St}
  (ht:ik Y μf μ1 U A φ O) (I8: ∀x ∈ gs,qO μ1 φ O x.1 x.2.1 x.2.2) (he:IN Y μ1 n c rs val) (l: ∀j ∈ rs,n<=j-> ¬U j) (hd:distinct rs=true) (a: (kN bG r gs c k).run C ⟨T,O⟩=some p):
  GL Y μf μ1 C T (fun j=>U j\/(bG=true/\j ∈ rs)) A φ O k p fun φ' O' c'=>aj ⟨Y.toTrEnv,after Y μ1 n bG,Y.tok⟩ (quiet μ1 φ' O') c' val:=by
 unfold kN at a;split at a
 .rename_i hp;refine⟨A,φ,O,c,a,ht.more fun j h=> .inl h,eT.refl _ _,fun _ h=>h,?_⟩;cases he with
  | cell h=>
    cases h with
    | pure Gm hv=>exact eA (X:=Y) (μ:=μ1) (μ':=quiet μ1 φ O) rfl (fun b=>mK) hp hv
    | sl=>simp[V.az] at hp
    | own=>simp[V.az] at hp
  | @agg cs _ vals hc h=>
    have Gm:V.al cs=true:=by simpa [V.az] using hp
    obtain⟨hv,_⟩:=h.aV Gm;simp only[aj];exact⟨kL Gm hc,_,rfl,bT (X:=Y) (μ:=μ1) (μ':=quiet μ1 φ O) rfl (fun b=>mK) Gm hv⟩
 cases he with
 | cell h=>
   cases h with
   | pure hp hv=>rename_i m;exact absurd hp m
   | sl hr bC hg hl hv=>
     obtain⟨A1,φ1,O1,c1,d,e,f,g,i,o⟩:=kK h1 ht ht.lo I8 (.sl hr bC hg hl hv) l a;exact⟨A1,φ1,O1,c1,d,e,f,g,i⟩
   | own hr bC iC hg hl hp hv=>
     obtain⟨A1,φ1,O1,c1,d,e,f,g,i,o⟩:=kK h1 ht ht.lo I8 (.own hr bC iC hg hl hp hv) l a;exact⟨A1,φ1,O1,c1,d,e,f,g,i⟩
 | agg hc h=>
   obtain⟨A1,φ1,O1,c1,d,e,f,g,i,o⟩:=xu h1 ht I8 h l hd a;refine⟨A1,φ1,O1,_,d,e,f,g,?_⟩;simp only[aj];exact⟨o hc,_,rfl,i⟩
theorem CI (h1:bq Y μ1): ∀ {U:Nat->Prop} {A:Nat->Option Nat} {φ:Nat->Row} {O:Nat->Obj} {gs:List (Nat×Nat×Nat)} {cs:List V} {rs:List Nat} {vals:List Value} {r:Nat} {k:List V->Act} {p:V×St},
   ik Y μf μ1 U A φ O->(∀x ∈ gs,qO μ1 φ O x.1 x.2.1 x.2.2)->rY Y μ1 n cs rs vals->(∀j ∈ rs,n<=j-> ¬U j)->distinct rs=true->(la bG r gs cs k).run C ⟨T,O⟩=some p->
   GL Y μf μ1 C T (fun j=>U j\/(bG=true/\j ∈ rs)) A φ O k p fun φ' O' m=>ag ⟨Y.toTrEnv,after Y μ1 n bG,Y.tok⟩ (quiet μ1 φ' O') m vals:=by
 intro U A φ O gs cs rs vals r k p ht I8 he g hd d;induction he generalizing U A φ O r k with
 | nil=>exact⟨A,φ,O,[],d,ht.more fun j h=> .inl h,eT.refl _ _,fun _ h=>h,by simp[ag]⟩
 | @cons c rs rs' val cs vals h hs o=>
   obtain⟨d1,q,s⟩:=lL hd;simp only[la] at d;obtain⟨A1,φ1,O1,c1,t,u,i,v,w⟩:=uG h1 ht I8 h (fun j a=>g j (by simp[a])) d1 d;obtain⟨A2,φ2,O2,f,y,z,l,B,D⟩:=o u (fun x hx=> (I8 x hx).mono i) (fun j a hn b=>by
    rcases b with b| ⟨_,b⟩
    .exact g j (by simp[a]) hn b
    .exact s j a b) q t
   refine⟨A2,φ2,O2,c1::f,y,z.more fun j a=> ?_,i.trans l,fun r' h=>B r' (v r' h),?_⟩
   .rcases a with(a| ⟨e,a⟩) | ⟨e,a⟩
    .exact .inl a
    .exact .inr ⟨e,by simp[a]⟩
    exact .inr ⟨e,by simp[a]⟩
   simp only[ag];exact⟨aj.mono (Jt l) w,D⟩
theorem rY.aV {cs:List V} {rs:List Nat} {vals:List Value} (h:rY Y μ1 n cs rs vals) (hp:V.al cs=true):ag Y μ1 cs vals/\rs=[]:=by
 induction h with
 | nil=>simp[ag]
 | cons h hs a=>
   simp only[V.al,ajt] at hp;obtain⟨i1,i2⟩:=a hp.2;cases h with
   | cell h=>
     cases h with
     | pure Gm hv=>simp only[ag];exact⟨⟨hv,i1⟩,by simpa using i2⟩
     | sl=>simp[V.az] at hp
     | own=>simp[V.az] at hp
   | @agg cs _ vals hc h=>
     have Gm:V.al cs=true:=by simpa [V.az] using hp.1
     obtain⟨hv,e⟩:=h.aV Gm;subst e;simp only[ag,aj];exact⟨⟨⟨kL Gm hc,_,rfl,hv⟩,i1⟩,by simpa using i2⟩
end
end Go.AM
namespace Go.AM
open Go Go.RowKit
mutual
theorem nI: ∀ {x:V},V.isScalar x=true->V.az x=true
 | .bool _,_| .int ..,_| .float _,_| .str _,_| .nilp,_| .nilfn,_| .nili,_| .nils,_=>rfl
 | .any,hp| .own ..,hp| .msl ..,hp| .mptr ..,hp| .sl ..,hp| .ptr ..,hp| .lit ..,hp| .eptr ..,hp| .litk ..,hp| .epk ..,hp| .mp ..,hp| .it ..,hp| .mlit ..,hp| .fn ..,hp| .bfn ..,hp| .iface ..,hp=>by simp[V.isScalar] at hp
 | .agg cs,hp=>by simpa [V.az] using iI (by simpa [V.isScalar] using hp)
 | .tuple cs,hp=>by simpa [V.az] using iI (by simpa [V.isScalar] using hp)
theorem iI: ∀ {xs:List V},V.bz xs=true->V.al xs=true
 | [],_=>rfl
 | x::xs,hp=>by simp only[V.bz,ajt] at hp;simp only[V.al,ajt];exact⟨nI hp.1,iI hp.2⟩
end
section
variable {Y:Ctx} {μf μ1:Mu} {n:Nat} {bG:Bool} {C:bB} {T:Nat->V}
def Xz (Y:Ctx) (μ:Mu) (n:Nat) (v:V) (rs:List Nat) (val:Value):Prop:=
 IN Y μ n v rs val\/ ∃vs a,v= .tuple vs/\val= .tuple a/\rY Y μ n vs rs a.toList
theorem dT.aeD (h1:bq Y μ1) {T':Nat->V} {v0 v:V} {rs:List Nat} {val:Value} (hv:aj Y μ1 v0 val) (h:dT n ⟨T',μ1.O⟩ v0 v rs):Xz Y μ1 n v rs val:=by
 cases h with
 | one h=>exact .inl (oX h1 hv h)
 | many h=>
   simp only[aj] at hv;obtain⟨a,rfl,hv⟩:=hv;exact .inr ⟨_,a,rfl,rfl,nv h1 hv h⟩
theorem Xz.pure {v:V} {rs:List Nat} {val:Value} (h:Xz Y μ1 n v rs val) (hp:V.az v=true):aj Y μ1 v val:=by
 rcases h with h| ⟨vs,a,rfl,rfl,h⟩
 .have hs:rY Y μ1 n [v] (rs++[]) [val]:= .cons h .nil;have:=(hs.aV (by simp[V.al,hp])).1;simp only[ag] at this;exact this.1
 simp only[aj];exact⟨a,rfl,(h.aV (by simpa [V.az] using hp)).1⟩
theorem z8 (h1:bq Y μ1) {U:Nat->Prop} {A:Nat->Option Nat} {φ:Nat->Row} {O:Nat->Obj} {gs:List (Nat×Nat×Nat)} {c v:V} {rs:List Nat} {val:Value} {r:Nat} {σ':St}
  (ht:ik Y μf μ1 U A φ O) (I8: ∀x ∈ gs,qO μ1 φ O x.1 x.2.1 x.2.2) (he:Xz Y μ1 n c rs val) (m: ∀j ∈ rs,n<=j-> ¬U j) (hd:distinct rs=true) (a: (eV bG r gs c .done).run C ⟨T,O⟩=some (v,σ')):
  σ'.T=T/\((V.az c=true/\v=c/\σ'.O=O/\aj Y μ1 c val)\/ ∃A' φ',ik Y μf μ1 (fun j=>U j\/(bG=true/\j ∈ rs)) A' φ' σ'.O/\eT φ O φ' σ'.O/\(∀r,A r≠none->A' r≠none)/\aj ⟨Y.toTrEnv,after Y μ1 n bG,Y.tok⟩ (quiet μ1 φ' σ'.O) v val):=by
 unfold eV at a;split at a
 .rename_i hp;obtain⟨rfl,rfl⟩:=bn a;exact⟨rfl,.inl ⟨hp,rfl,rfl,he.pure hp⟩⟩
 rename_i b;split at a
 .rename_i vs;rcases he with he| ⟨vs',o,e,rfl,he⟩
  .cases he with
   | cell h=>
     cases h with
     | pure hp hv=>exact absurd hp b
  injection e with e;subst e;obtain⟨A1,φ1,O1,c1,d,f,g,i,k⟩:=CI h1 ht I8 he m hd a;obtain⟨rfl,rfl⟩:=bn d;refine⟨rfl,.inr ⟨A1,φ1,f,g,i,?_⟩⟩;simp only[aj];exact⟨o,rfl,k⟩
 rename_i l;rcases he with he| ⟨vs',o,e,rfl,he⟩
 .obtain⟨A1,φ1,O1,c1,d,f,g,i,k⟩:=uG h1 ht I8 he m hd a;obtain⟨rfl,rfl⟩:=bn d;exact⟨rfl,.inr ⟨A1,φ1,f,g,i,k⟩⟩
 exact absurd e (l vs')
end
section
variable {X:Ctx} {μ μ1:Mu} {r0:Nat}
theorem yO {aL:List V} {vals:List Value} {rs:List Nat} {ws:List eY} (I:bq X μ) (hp:nF X μ r0 0 aL vals rs ws)
  (le:Le ⟨μ.w,fK μ.φ ws,(enter aL).O⟩ μ1) (h1:bq ⟨X.toTrEnv,dv X μ rs ws,X.tok⟩ μ1) {Of:Nat->Obj} (hf:bq X ⟨μ.w,μ.φ,Of⟩) (YB: ∀w ∈ ws,Of w.r=μ.O w.r)
  {U:Nat->Prop} {A:Nat->Option Nat} {φ:Nat->Row} {O:Nat->Obj} (ht:ik ⟨X.toTrEnv,dv X μ rs ws,X.tok⟩ ⟨μ.w,μ.φ,Of⟩ μ1 U A φ O) (hm:eT μ.φ Of φ O) (hA: ∀w ∈ ws,A w.r≠none)
  (J: ∀j,U j->((∀es,(μ1.O j).es=some es->V.bz es=true))\/ ∀b,Own X ⟨μ1.w,φ,O⟩ b->Own ⟨X.toTrEnv,dv X μ rs ws,X.tok⟩ μ1 b):
  Le ⟨μ.w,μ.φ,Of⟩ ⟨μ1.w,φ,O⟩/\bq X ⟨μ1.w,φ,O⟩:=by
 have YD: ∀b,(⟨μ.w,fK μ.φ ws,(enter aL).O⟩:Mu).own b-> ∃w ∈ ws,(Of w.r).es.isSome=true/\(Of w.r).fz=false/\(μ.φ w.r).cap≠0/\(μ.φ w.r).cj=b:=fun b hb=>by obtain⟨i,r,d,a,k,g,p⟩:=yL hp hb;have e:=YB _ d;simp only at e;exact⟨_,d,by rw[e];exact a,by rw[e];exact k,g,p⟩
 have q: ∀j,(μ1.O j).es.isSome=true/\(μ1.O j).fz=false->(μ1.φ j).cap≠0->μ1.own (μ1.φ j).cj:=fun j hl hc=> ⟨j,hl.1,hl.2,hc,rfl⟩;have kept: ∀r,A r=none->(Of r).es.isSome=true->(μ.φ r).cap≠0->(μ.φ r).cj<μ.w.heap.size/\μ1.w.heap[(μ.φ r).cj]? =μ.w.heap[(μ.φ r).cj]? /\ ¬μ1.own (μ.φ r).cj:=fun r hr hs hc=>by
  obtain⟨es,he⟩:=ajz.1 hs;have G: (μ.φ r).cj<μ.w.heap.size:=ig.cj (μ:=⟨μ.w,μ.φ,Of⟩) (hf.ok r es he) hc;have y: ¬ (⟨μ.w,fK μ.φ ws,(enter aL).O⟩:Mu).own (μ.φ r).cj:=fun hb=>by obtain⟨w,d,a,k,g,p⟩:=YD _ hb;have bW:w.r≠r:=fun e=>hA w d (e ▸ hr);exact hf.inj w.r r bW a hs g hc p
  obtain⟨C,D⟩:=le.cn _ G y;exact⟨G,C,D⟩
 have E: ∀b,(⟨μ1.w,φ,O⟩:Mu).own b->(⟨μ.w,μ.φ,Of⟩:Mu).own b\/μ1.own b:=fun b hb=>by
  obtain⟨r,d,a,k,g⟩:=hb;simp only at d a k g;cases e:A r with
  | none=>
    obtain⟨f,h⟩:=ht.Js r e;rw[f] at d a;rw[h] at k g;exact .inl ⟨r,d,a,k,g⟩
  | some j=>
    obtain⟨t,_⟩:=ht.EY r j e;obtain⟨b1,l⟩:=t.cj k;exact .inr ⟨j,t.live.1,t.live.2,b1,by rw[<-l];exact g⟩
 have LE:Le ⟨μ.w,μ.φ,Of⟩ ⟨μ1.w,φ,O⟩:=by
  refine⟨le.size,fun b hb y=> ?_,fun r=> (hm r).1,fun r e=> (hm r).2 e,le.os,le.output,le.tape,le.frozen⟩;have F: ¬ (⟨μ.w,fK μ.φ ws,(enter aL).O⟩:Mu).own b:=fun K=>by obtain⟨w,d,a,k,g,p⟩:=YD _ K;exact y ⟨w.r,a,k,g,p⟩
  obtain⟨C,D⟩:=le.cn b hb F;exact⟨C,fun h3=> (E b h3).elim y D⟩
 refine⟨LE,fun r es bC=> ?_,fun r1 r2 bW z s u n m=> ?_,fun r d a hb=> ?_,fun b hb=>ajB (I.blt b hb) le.size⟩
 .simp only at bC;cases e:A r with
  | none=>
    obtain⟨f,h⟩:=ht.Js r e;simp only at f h;rw[f] at bC;exact ig.cn (r:=r) (r':=r) LE (hf.ok r es bC) (by simp[f]) (by simp[h]) (fun hc=> (kept r e (by simp[bC]) hc).2.1)
  | some j=>
    obtain⟨t,L⟩:=ht.EY r j e;obtain⟨es',s0,s1,s2,s3,M,N⟩:=t.es;rw[bC] at s0;injection s0 with s0;subst s0;left
    unfold oA;simp only;refine⟨s2,s3,M,N.imp id ?_⟩;rintro⟨c,TT,vs,p1,p2,p3,p4⟩;refine⟨c,TT,vs,p1,p2,?_,p4⟩;rcases J j L with hs| hs
    .exact bX (X:=⟨X.toTrEnv,dv X μ rs ws,X.tok⟩) (μ:=μ1) (X':=X) (μ':=⟨μ1.w,φ,O⟩) rfl (t.sc hs _ bC) p3
    exact bT (X:=⟨X.toTrEnv,dv X μ rs ws,X.tok⟩) (μ:=μ1) (B:=X.Ym) (μ':=⟨μ1.w,φ,O⟩) rfl hs s1 p3
 .simp only at z s u n m;cases a1:A r1 with
  | none=>
    obtain⟨f,h⟩:=ht.Js r1 a1;simp only at f h;rw[f] at z;rw[h] at u m;cases o:A r2 with
    | none=>
      obtain⟨v,x⟩:=ht.Js r2 o;simp only at v x;rw[v] at s;rw[x] at n m;exact hf.inj r1 r2 bW z s u n m
    | some j=>
      obtain⟨t,_⟩:=ht.EY r2 j o;obtain⟨b1,l⟩:=t.cj n;exact(kept r1 a1 z u).2.2 (by rw[m,l];exact q j t.live b1)
  | some j=>
    obtain⟨t,_⟩:=ht.EY r1 j a1;obtain⟨b1,l⟩:=t.cj u;cases o:A r2 with
    | none=>
      obtain⟨v,x⟩:=ht.Js r2 o;simp only at v x;rw[v] at s;rw[x] at n m;exact(kept r2 o s n).2.2 (by rw[<-m,l];exact q j t.live b1)
    | some H=>
      obtain⟨t2,_⟩:=ht.EY r2 H o;obtain⟨c1,c2⟩:=t2.cj n;refine h1.inj j H (fun e=>bW (ht.inj r1 r2 j a1 (e ▸ o))) t.live.1 t2.live.1 b1 c1 ?_;rw[<-l,<-c2];exact m
 simp only at d a hb;cases a1:A r with
 | none=>
   obtain⟨f,h⟩:=ht.Js r a1;simp only at f h;rw[f] at d;rw[h] at a hb;exact hf.vE r d a hb
 | some j=>
   obtain⟨t,_⟩:=ht.EY r j a1;obtain⟨b1,l⟩:=t.cj a;exact h1.vE j t.live.1 b1 (.inl (l ▸ hb))
end
end Go.AM
namespace Go.AM
open Go Go.RowKit
section
variable {X:Ctx} {μ μ1:Mu} {r0:Nat} {C:bB} {T:Nat->V}
theorem LY {r:Nat} {bG:Bool} {v:V} (h:xP r bG v=true): ∃sz xs,v= .own sz xs/\bG=false/\V.bz xs=true:=by
 cases v<;>simp[xP] at h
 rename_i sz xs;exact⟨sz,xs,rfl,h.2.1,h.2.2⟩
theorem XA {aL:List V} {vals:List Value} {rs:List Nat} {ws:List eY} (k:bq X μ) (hp:nF X μ r0 0 aL vals rs ws)
   (le:Le ⟨μ.w,fK μ.φ ws,(enter aL).O⟩ μ1) (h1:bq ⟨X.toTrEnv,dv X μ rs ws,X.tok⟩ μ1) {U:Nat->Prop} {A:Nat->Option Nat} {φ:Nat->Row} {O:Nat->Obj}
   (ht:ik ⟨X.toTrEnv,dv X μ rs ws,X.tok⟩ ⟨μ.w,μ.φ,μ.O⟩ μ1 U A φ O) (hA: ∀w ∈ ws,A w.r≠none) {n:Nat} (p: ∀j,U j->j<n) {sz:Nat} {xs:List V} {a:List Nat} {val:Value}
   (he:Xy ⟨X.toTrEnv,dv X μ rs ws,X.tok⟩ μ1 n (.own sz xs) a val) (hs:V.bz xs=true):aj X ⟨μ1.w,φ,O⟩ (.lit sz xs) val:=by
 cases he with
 | pure ot _=>simp[V.az] at ot
 | @own r g off len es _ hr bC iC hg hl ot h=>
   simp only[aj] at h;obtain⟨a0,cap,rfl,q,_,s⟩:=h;obtain⟨u,N,v⟩:=s hg;obtain⟨P,Q,l,d⟩:=h1.row r es bC u;have b: (aN es off len).length=len:=by simp[aN];omega
   simp only[aj];refine⟨ot,?_,a0,cap,?_⟩
   .simp only[ajx] at l ⊢;exact fun x hx=> (cF (l x (aki (ajN hx)))).1
   by_cases y:cap=0
   .have:len=0:=ajk;subst this;refine⟨[],by rw[b],by rw[b];omega,?_,.inl ?_⟩
    .simp[aN,ag]
    simp[aN]
   have c: (μ1.φ r).cap≠0:=ajk;rcases d with d| ⟨R,TT,vs,z,S,B,C⟩
   .exact absurd d c
   have f:=bX (X:=⟨X.toTrEnv,dv X μ rs ws,X.tok⟩) (μ:=μ1) (X':=X) (μ':=⟨μ1.w,φ,O⟩) rfl hs (ag.take len (ag.drop off B));refine⟨(vs.drop off).take len,by rw[b],by rw[b];omega,f,.inr ⟨_,_,v.resolve_left y,?_,(ajs.1 z).1,(C.drop off).take len⟩⟩;have D:μ1.own (μ1.φ r).cj:=⟨r,by simp[bC],iC,c,rfl⟩;rintro(⟨r',e1,e2,e3,e4⟩ | Lz)
   .simp only at e1 e2 e3 e4;cases e:A r' with
    | none=>
      obtain⟨m,o⟩:=ht.Js r' e;simp only at m o;rw[m] at e1 e2;rw[o] at e3 e4;obtain⟨es',E⟩:=ajz.1 e1;have F: (μ.φ r').cj<μ.w.heap.size:=ig.cj (μ:=⟨μ.w,μ.φ,μ.O⟩) (k.ok r' es' E) e3;have G: ¬ (⟨μ.w,fK μ.φ ws,(enter aL).O⟩:Mu).own (μ.φ r').cj:=fun hb=>by obtain⟨i,r2,H,I,T,J,K⟩:=yL hp hb;have bW:r2≠r':=fun e'=>hA _ H (by rw[<-e] ;exact congrArg A e');exact k.inj r2 r' bW I e1 J e3 K
      exact(le.cn _ F G).2 (by rw[e4];exact D)
    | some j=>
      obtain⟨t,L⟩:=ht.EY r' j e;obtain⟨b1,M⟩:=t.cj e3;have W:=p j L;exact h1.inj j r ajk t.live.1 (by simp[bC]) b1 c (by rw[<-M];exact e4)
   exact h1.vE r (by simp[bC]) c (.inl Lz)
theorem EZ {aL:List V} {vals:List Value} {rs:List Nat} {ws:List eY} (l:bq X μ) (hp:nF X μ r0 0 aL vals rs ws) (o9:apart rs (ws.map (·.r))=true) (hd:distinct (ws.map (·.r))=true)
  (le:Le ⟨μ.w,fK μ.φ ws,(enter aL).O⟩ μ1) (h1:bq ⟨X.toTrEnv,dv X μ rs ws,X.tok⟩ μ1) {res:fu} {c:List Nat} {v0:V} {val:Value} {T':Nat->V} (hv:aj ⟨X.toTrEnv,dv X μ rs ws,X.tok⟩ μ1 v0 val)
  (W9:dT aL.length ⟨T',μ1.O⟩ v0 res.val c) (D:distinct c=true) (Uv:cV μ1.O 0 aL=some res.outs) {bG:Bool} {r:Nat} {v:V} {σ':St}
  (E: (if (res.val.isScalar || xP r bG res.val) &&res.outs.all (fun o=>V.bz o.2) then fY ws res.outs fun gs=>eV bG r gs res.val .done else eC rs (fY ws res.outs fun gs=>eV bG r gs res.val .done)).run C ⟨T,μ.O⟩=some (v,σ')):
  σ'.T=T/\ ∃φ',aj X ⟨μ1.w,φ',σ'.O⟩ v val/\Le μ ⟨μ1.w,φ',σ'.O⟩/\bq X ⟨μ1.w,φ',σ'.O⟩:=by
 have m:=W9.aeD h1 hv;have hi:=hp.inc;have I: ∀w ∈ ws,w.fresh=none->(μ1.O w.i).gen=0->μ1.φ w.i=μ.φ w.r:=fun w hw XB hg=>by
  have Q: ((enter aL).O w.i).gen=0:=by
   rcases mJ hp w.i with h| ⟨_,_,_,_,_,_,h,_⟩ | ⟨_,_,_,h,_⟩
   .rw[h];rfl
   .exact h
   exact h
  obtain⟨R,_⟩:=le.row w.i (by rw[hg];exact Q.symm);rw[R];have:=kJ (φ:=μ.φ) hi w hw;rw[XB] at this;exact this
 have start: ∀ (Of:Nat->Obj) (S:Nat->Prop),ik ⟨X.toTrEnv,dv X μ rs ws,X.tok⟩ ⟨μ.w,μ.φ,Of⟩ μ1 (fun j=>j< 0/\S j) (fun _=>none) μ.φ Of:=fun Of S=>
  ⟨fun _ _=> ⟨rfl,rfl⟩,fun _ _ e=>by simp at e,fun _ _ _ e=>by simp at e⟩
 split at E
 .rename_i s;simp only[ajt,akD] at s;obtain⟨p,W⟩:=s;have Y: ∀w ∈ ws,∀es,(μ1.O w.i).es=some es->V.bz es=true:=fun w hw es he=>by obtain⟨g,es',a,f⟩:=Uu hp Uv w hw;rw[he] at a;injection a with a;subst a;exact(ajx.1 W) _ f
  obtain⟨A,φ,O,gs,a,f,y,q,Z,J⟩:=uD (μf:=⟨μ.w,μ.φ,μ.O⟩) h1 I rfl (fun _ _=>rfl) (S:=fun j=> ∀es,(μ1.O j).es=some es->V.bz es=true) Y hp Uv (start μ.O _) (fun w hw=>hw) (fun _ _=>rfl) hd E;obtain⟨b1,k⟩:=yO l hp le h1 (Of:=μ.O) l (fun _ _=>rfl) f y q (fun j d=> .inl d.2);rcases p with p| p
  rotate_left
  .obtain⟨sz,xs,Dx,F,G⟩:=LY p;subst F;rw[Dx] at a m;have he:Xy ⟨X.toTrEnv,dv X μ rs ws,X.tok⟩ μ1 aL.length (.own sz xs) c val:=by
    rcases m with m| ⟨vs,us,e,_⟩
    . cases m with
      | cell h=>exact h
    exact nomatch e
   have Cb:=XA (n:=aL.length) l hp le h1 f q (fun j d=>by have:=d.1;omega) he G;simp only[eV,kN,dY,V.az,ajA,if_false] at a;obtain⟨rfl,rfl⟩:=bn a;exact⟨rfl,φ,Cb,b1,k⟩
  have ot:=nI p;unfold eV at a;rw[if_pos ot] at a;obtain⟨rfl,rfl⟩:=bn a;exact⟨rfl,φ,jq (X:=⟨X.toTrEnv,dv X μ rs ws,X.tok⟩) (μ:=μ1) (X':=X) (μ':=⟨μ1.w,φ,O⟩) rfl p (m.pure ot),b1,k⟩
 obtain⟨Of,f1,f2,K,L,f5⟩:=lK (X:=X) (w:=μ.w) (φ:=μ.φ) rs l E;have YB: ∀w ∈ ws,Of w.r=μ.O w.r:=fun w hw=>L _ fun hr=>by have:=ajx.1 o9 w.r (ajL.2 ⟨w,hw,rfl⟩);simp[hr] at this
 obtain⟨A,φ,O,gs,a,f,y,q,Z,J⟩:=uD (μf:=⟨μ.w,μ.φ,Of⟩) h1 I rfl YB (S:=fun _=>True) (fun _ _=>trivial) hp Uv (start Of _) (fun w hw=>hw) (fun _ _=>rfl) hd f1;obtain⟨hT,jK⟩:=z8 h1 f J m (fun j _ hn H=>by have:=H.1;omega) D a;have u: ∀ {U:Nat->Prop} {A:Nat->Option Nat} {φ:Nat->Row} {O:Nat->Obj},ik ⟨X.toTrEnv,dv X μ rs ws,X.tok⟩ ⟨μ.w,μ.φ,Of⟩ μ1 U A φ O->(∀w ∈ ws,A w.r≠none)->(∀j,U j->bG=true\/j<aL.length)->
   ∀b,Own X ⟨μ1.w,φ,O⟩ b->after ⟨X.toTrEnv,dv X μ rs ws,X.tok⟩ μ1 aL.length bG b:=by
  intro U A φ O ht hA hU b hb;rcases hb with⟨r',q1,q2,q3,q4⟩ | hb
  .simp only at q1 q2 q3 q4;cases e:A r' with
   | none=>
     obtain⟨M,N⟩:=ht.Js r' e;simp only at M N;rw[M] at q1 q2;rw[N] at q3 q4;have P:r' ∉ rs:=fun h=>by rw[f5 r' h] at q2;simp at q2
     have qU:r' ∉ ws.map (·.r):=fun h=>by obtain⟨w,hw,e'⟩:=ajL.1 h;exact hA w hw (by rw[e'];exact e)
     rw[L r' P] at q1 q2;exact .inl (.inr ⟨r',P,qU,q1,q2,q3,q4⟩)
   | some j=>
     obtain⟨t,H⟩:=ht.EY r' j e;obtain⟨b1,k⟩:=t.cj q3;exact .inr ⟨j,hU j H,t.live.1,t.live.2,b1,by rw[<-k];exact q4⟩
  exact .inl (.inl hb)
 refine⟨hT,?_⟩;rcases jK with⟨ot,rfl,hO,hvv⟩ | ⟨A',φ',m1,m2,m3,m4⟩
 .have z:=u f q (fun j d=> .inr (by have:=d.1;omega));have Ei: ∀b,Own X ⟨μ1.w,φ,O⟩ b->Own ⟨X.toTrEnv,dv X μ rs ws,X.tok⟩ μ1 b:=fun b hb=>mK (φ:=φ) (O:=O) (.inr (z b hb));obtain⟨b1,k⟩:=yO l hp le h1 (Of:=Of) K YB f y q (fun j d=> .inr Ei);rw[hO];exact⟨φ,eA (X:=⟨X.toTrEnv,dv X μ rs ws,X.tok⟩) (μ:=μ1) (B:=X.Ym) (μ':=⟨μ1.w,φ,O⟩) rfl Ei ot hvv,f2.trans b1,k⟩
 have x: ∀w ∈ ws,A' w.r≠none:=fun w hw=>m3 _ (q w hw);have z:=u m1 x (fun j d=>d.elim (fun h=> .inr (by have:=h.1;omega)) fun h=> .inl h.1);have Ei: ∀b,Own X ⟨μ1.w,φ',σ'.O⟩ b->Own ⟨X.toTrEnv,dv X μ rs ws,X.tok⟩ μ1 b:=fun b hb=>mK (φ:=φ') (O:=σ'.O) (.inr (z b hb));obtain⟨b1,k⟩:=yO l hp le h1 (Of:=Of) K YB m1 (y.trans m2) x (fun j d=> .inr Ei);refine⟨φ',weaken (X:=⟨X.toTrEnv,after ⟨X.toTrEnv,dv X μ rs ws,X.tok⟩ μ1 aL.length bG,X.tok⟩) (μ:=quiet μ1 φ' σ'.O) (X':=X) (μ':=⟨μ1.w,φ',σ'.O⟩) rfl rfl rfl rfl (fun _=> ⟨rfl,rfl⟩) (fun b hb=> .inr (z b hb)) m4,f2.trans b1,k⟩
end
end Go.AM
namespace Go.AM
open Go Go.RowKit
section
variable {X:Ctx} {E:Env} {C:bB} {o:Oper} {a:Go.Act} {T:Nat->V} {μ:Mu} {v:V} {σ':St}
theorem YE {C:bB} {act:Act}: ∀ {σ σ':St} {v:V},act.run C σ=some (v,σ')->σ'.T=σ.T:=by
 induction act with
 | done u=>intro σ σ' v h;obtain⟨_,rfl⟩:=bn h;rfl
 | fail=>intro σ σ' v h;exact absurd h aq
 | pc t k a=>intro σ σ' v h;exact a _ h
 | bV r k a=>intro σ σ' v h;exact a _ h
 | bS r o k a=>intro σ σ' v h;have:=a h;simpa using this
 | call f aL k a=>
   intro σ σ' v h;simp only[Act.run] at h;split at h
   .exact a _ h
   simp at h
theorem Ni {Y:Ctx} {μ:Mu} {W':World} (hg:μ.w.grownBy W' none) (a:bq Y μ):Le μ ⟨W',μ.φ,μ.O⟩/\bq Y ⟨W',μ.φ,μ.O⟩:=by have hb: ∀k,k<μ.w.heap.size->W'.heap[k]? =μ.w.heap[k]? :=fun k c=>hg.block k c ajl;have st:ju Y μ W':=ov hg;refine⟨⟨hg.size,fun b d hn=> ⟨hb b d,hn⟩,fun _=>ajw _,fun _ _=> ⟨rfl,rfl⟩,hg.os,hg.output,hg.tape,fun ad Pd=>by simp only[World.frozen?,hb ad.block Pd]⟩,?_⟩;exact a.cE st fun r h1 h2=>hb _ (vg a h1 h2)
def yP (X:TrEnv) (F:FuncId) (h:List V->List V->Option (V×List V)):Prop:= ∀es aL v es',h es aL=some (v,es')->V.isScalar v=true/\V.bz es'=true/\
 ∀ (Y:Ctx) (μ:Mu) (b:Nat) (ents:Array MapEntry) (clock:Nat) (vals:List Value),Y.toTrEnv=X->μ.w.heap[b]? =some (.map ents clock)->iB ents clock->ag Y μ es (ents.toList.map qX)->ag Y μ aL vals->V.bz aL=true->
  vl X.P ((callFunc F (Value.agg #[.map (some b)]::vals).toArray).run X.P μ.w) fun val w'=>aj Y μ v val/\μ.w.grownBy w' (some b)/\ ∃a c,w'.heap[b]? =some (.map a c)/\iB a c/\ag Y μ es' (a.toList.map qX)
theorem GM {μ:Mu} {r:Nat} {es es':List V} {v:V} {val:Value} {w':World} (f:bq X μ) (bC: (μ.O r).es=some es) (bM: (μ.O r).sz=0) (iC: (μ.O r).fz=false) (g:V.isScalar v=true) (n:V.bz es'=true)
  (hh: (μ.φ r).cap≠0) {ents:Array MapEntry} {clock:Nat} (hb:μ.w.heap[(μ.φ r).cj]? =some (.map ents clock)) (h:ag X μ es (ents.toList.map qX)) (i:iB ents clock)
  (hv:aj X μ v val) (hg:μ.w.grownBy w' (some (μ.φ r).cj)) {a:Array MapEntry} {b:Nat} (j:w'.heap[(μ.φ r).cj]? =some (.map a b)) (c:iB a b) (Np:ag X μ es' (a.toList.map qX)):
  aj X ⟨w',μ.φ,dh μ.O r {μ.O r with es:=some es'}⟩ v val/\Le μ ⟨w',μ.φ,dh μ.O r {μ.O r with es:=some es'}⟩/\bq X ⟨w',μ.φ,dh μ.O r {μ.O r with es:=some es'}⟩:=by
 obtain⟨d,Ys⟩:=iD f r (es':=es') (ob':= .map a b) bC iC bM hb hh (.inl ⟨ents,clock,rfl,h,i⟩) (.inl ⟨a,b,rfl,Np,c⟩);have l: (μ.φ r).cj<μ.w.heap.size:=(ajs.1 hb).1;have Kx: ({μ.w with heap:=μ.w.heap.set! (μ.φ r).cj (.map a b)}:World).grownBy w' none:=by
  refine⟨hg.os,hg.tape,hg.output,by simpa using hg.size,fun k m _=> ?_⟩;by_cases e:k=(μ.φ r).cj
  .subst e;rw[j];simp[akC,l]
  have Ie:k<μ.w.heap.size:=by simpa using m
  rw[hg.block k Ie (by simp;omega)];simp[akC,akN e]
 obtain⟨LC,Yr⟩:=Ni (μ:=⟨{μ.w with heap:=μ.w.heap.set! (μ.φ r).cj (.map a b)},μ.φ,dh μ.O r {μ.O r with es:=some es'}⟩) Kx Ys;exact⟨jq rfl g hv,d.trans LC,Yr⟩
theorem tK {h:Rel X T a μ} (O:Nat->Obj): ∀ {xs:List Operand} {ys:List ba},pO X xs=some ys->ag X μ (ys.map (bE ⟨T,O⟩)) (xs.map a.eval)
 | [],ys,e=>by simp[pO] at e;subst e;simp[ag]
 | x::xs,ys,e=>by
   simp only[pO] at e;split at e
   .rename_i y b h1 h2;injection e with e;subst e;simp only[List.map_cons,ag];exact⟨aX h h1 O,tK (h:=h) O h2⟩
   simp at e
theorem Uw (hC: ∀f F aL res,X.gA F=some f->C f aL=some res->bL X.toTrEnv F aL res) (hM: ∀f F h,E.Fc f=some h->X.gA F=some f->yP X.toTrEnv F h) {h:Hints} {dst:Nat} {c:Call} {L:vH} (hr:Rel X T a μ) (M:o.op= .call c) (n:Cf X h dst c=some L) (LH:L.kI=true)
  (i: (aQ E L).run C ⟨T,μ.O⟩=some (v,σ')):σ'.T=T/\ ∀ (j:Go.Act->World->Prop) (Q:Go.Exit->Go.Act->World->Prop),
  (∀val w' φ',aj X ⟨w',φ',σ'.O⟩ v val->Le μ ⟨w',φ',σ'.O⟩->bq X ⟨w',φ',σ'.O⟩->j (a.put o.dst val) w')->o.wp X.P a μ.w j Q:=by
 unfold Cf at n;split at n
 .rename_i f q;split at n
  .rename_i f' aaw hf r;injection n with n;subst n;simp only[aQ,bF] at i;split at i
   .rename_i f0 caps Vv;rw[qB] at i;have XB:=aX hr hf μ.O;rw[Vv] at XB;simp only[aj] at XB;obtain⟨F,m,K,PK,p⟩:=XB;have x:=(tK (h:=hr) μ.O r).append p;simp only[mN] at i;obtain⟨aL,rs,ws,h1,hp⟩:=fo hr.bp x i;split at h1
    .rename_i y;simp only[ajt] at y;obtain⟨o9,hd⟩:=y;simp only[Act.run] at h1;split at h1
     .rename_i res N;have R:=hC f0 F aL res PK N;obtain⟨S,U,W⟩:=zD hr.bp hp o9 hd;have z:=R (dv X μ rs ws) X.tok μ.w (fK μ.φ ws) _ S U W;have A: (execOp a.eval o).run X.P μ.w=(callFunc F (List.map a.eval c.args.toList++m.toList).toArray).run X.P μ.w:=by
       have k: (c.args.map a.eval)++m=(List.map a.eval c.args.toList++m.toList).toArray:=by apply akI.1;simp
       simp only[execOp,M,resolve,q,K,Deferred.ofValue,Sem.run_bind];rw[<-k];simp[invoke,Sem.run]
      have key: ∀val w',(∃φ' T' O' v0 d,Le ⟨μ.w,fK μ.φ ws,(enter aL).O⟩ ⟨w',φ',O'⟩/\bq ⟨X.toTrEnv,dv X μ rs ws,X.tok⟩ ⟨w',φ',O'⟩/\
        aj ⟨X.toTrEnv,dv X μ rs ws,X.tok⟩ ⟨w',φ',O'⟩ v0 val/\dT aL.length ⟨T',O'⟩ v0 res.val d/\distinct d=true/\cV O' 0 aL=some res.outs)->
        σ'.T=T/\ ∃φ',aj X ⟨w',φ',σ'.O⟩ v val/\Le μ ⟨w',φ',σ'.O⟩/\bq X ⟨w',φ',σ'.O⟩:=by
       rintro val w' ⟨φ',T',O',v0,d,Y,Z,k3,k4,k5,k6⟩;exact EZ hr.bp hp o9 hd Y Z k3 k4 k5 k6 h1
      have t:σ'.T=T:=YE h1;refine⟨t,fun j Q hn=> ?_⟩;unfold Oper.wp;rw[A];exact z.upon fun val w' hv=>by obtain⟨_,φ',B,D,G⟩:=key val w' hv;exact hn val w' φ' B D G
     simp at h1
    exact absurd h1 aq
   .rename_i f0 caps Vv;rw[qB] at i;have XB:=aX hr hf μ.O;rw[Vv] at XB;simp only[aj] at XB;obtain⟨F,m,K,PK,p⟩:=XB;split at i
    .rename_i r' g' hM' g hEx;have hrv:caps=[.agg [.mp r' g']]:=by
      unfold Fi at g;split at g
      .simp only[ajq,ajv] at g;obtain⟨rfl,rfl⟩:=g;rfl
      simp at g
     subst hrv;simp only[Mo,Act.run] at i;split at i
     .rename_i es bC;split at i
      .rename_i aiw;obtain⟨cT,bM,iC,Ve,H⟩:=aiw;split at i
       .rename_i u es' hh;simp only[Act.run,ajq,ajv] at i;obtain⟨rfl,rfl⟩:=i;obtain⟨jT,qj,hup⟩:=hM f0 F hM' hEx PK es _ u es' hh;have x:=tK (h:=hr) μ.O r;obtain⟨cvl,I⟩: ∃l,m.toList=l:=⟨_,rfl⟩;rw[I] at p
        match cvl,p with
        |   [rv],p=>
            simp only[ag,aj,and_true] at p;obtain⟨_,vs,rfl,J⟩:=p;obtain⟨vsl,Ez⟩: ∃l,vs.toList=l:=⟨_,rfl⟩;rw[Ez] at J
            match vsl,J with
            | [mv],J=>
              simp only[ag,aj,and_true] at J;obtain⟨b,rfl,nR,b9⟩:=J;obtain⟨_,rfl⟩:=b9 cT;obtain⟨cW,ents,clock,hm,bA,cL⟩: (μ.φ r').cap≠0/\ ∃ents clock,μ.w.heap[(μ.φ r').cj]? =some (.map ents clock)/\ag X μ es (ents.toList.map qX)/\iB ents clock:=by
                rcases hr.bp.ents r' es bC bM with h| ⟨_,s,pos,_,rfl⟩ | ⟨nN,rfl⟩
                .exact h
                .simp[V.isTuple] at H
                simp[V.isTuple] at H
              have z:=hup X μ (μ.φ r').cj ents clock _ rfl hm cL bA x Ve;have A: (execOp a.eval o).run X.P μ.w=(callFunc F (Value.agg #[.map (some (μ.φ r').cj)]::List.map a.eval c.args.toList).toArray).run X.P μ.w:=by
                have aix:vs= #[.map (some (μ.φ r').cj)]:=akI.1 (by rw[Ez]);have aiy:m= #[.agg #[.map (some (μ.φ r').cj)]]:=akI.1 (by rw[I,aix]);have k:m++(c.args.map a.eval)=(Value.agg #[.map (some (μ.φ r').cj)]::List.map a.eval c.args.toList).toArray:=by apply akI.1;rw[aiy];simp
                simp only[execOp,M,resolve,q,K,Deferred.ofValue,Sem.run_bind];rw[<-k];simp[invoke,Sem.run]
              refine⟨rfl,fun j Q hn=> ?_⟩;unfold Oper.wp;rw[A];exact z.upon fun val w' hv=>by obtain⟨v1,v2,qP,o6,v3,v4,v5⟩:=hv;obtain⟨B,D,G⟩:=GM hr.bp bC bM iC jT qj cW hm bA cL v1 v2 v3 v4 v5;exact hn val w' μ.φ B D G
       exact absurd i aq
      exact absurd i aq
     exact absurd i aq
    have x:=p.append (tK (h:=hr) μ.O r);simp only[mN] at i;obtain⟨aL,rs,ws,h1,hp⟩:=fo hr.bp x i;split at h1
    .rename_i y;simp only[ajt] at y;obtain⟨o9,hd⟩:=y;simp only[Act.run] at h1;split at h1
     .rename_i res N;have R:=hC f0 F aL res PK N;obtain⟨S,U,W⟩:=zD hr.bp hp o9 hd;have z:=R (dv X μ rs ws) X.tok μ.w (fK μ.φ ws) _ S U W;have A: (execOp a.eval o).run X.P μ.w=(callFunc F (m.toList++List.map a.eval c.args.toList).toArray).run X.P μ.w:=by
       have k:m++(c.args.map a.eval)=(m.toList++List.map a.eval c.args.toList).toArray:=by apply akI.1;simp
       simp only[execOp,M,resolve,q,K,Deferred.ofValue,Sem.run_bind];rw[<-k];simp[invoke,Sem.run]
      have key: ∀val w',(∃φ' T' O' v0 d,Le ⟨μ.w,fK μ.φ ws,(enter aL).O⟩ ⟨w',φ',O'⟩/\bq ⟨X.toTrEnv,dv X μ rs ws,X.tok⟩ ⟨w',φ',O'⟩/\
           aj ⟨X.toTrEnv,dv X μ rs ws,X.tok⟩ ⟨w',φ',O'⟩ v0 val/\dT aL.length ⟨T',O'⟩ v0 res.val d/\distinct d=true/\cV O' 0 aL=some res.outs)->
           σ'.T=T/\ ∃φ',aj X ⟨w',φ',σ'.O⟩ v val/\Le μ ⟨w',φ',σ'.O⟩/\bq X ⟨w',φ',σ'.O⟩:=by
       rintro val w' ⟨φ',T',O',v0,d,Y,Z,k3,k4,k5,k6⟩;exact EZ hr.bp hp o9 hd Y Z k3 k4 k5 k6 h1
      have t:σ'.T=T:=YE h1;refine⟨t,fun j Q hn=> ?_⟩;unfold Oper.wp;rw[A];exact z.upon fun val w' hv=>by obtain⟨_,φ',B,D,G⟩:=key val w' hv;exact hn val w' φ' B D G
     simp at h1
    exact absurd h1 aq
   exact absurd i aq
  simp at n
 .simp at n
 rename_i b hc;exfalso
 revert n
 split<;> (try split) <;> (try split) <;> (try split) <;>simp<;> (try (intro e;subst e;simp[vH.kI] at LH)) <;> (try (intros;subst_vars;simp[vH.kI] at LH)) <;> (try (rintro rfl;simp[vH.kI] at LH))
 all_goals (split at LH<;>first| (simp at LH;done) | (split at LH<;>simp at LH) | (rename_i h9;split at h9<;>simp at h9) | (rename_i h9;unfold Xn at h9; (repeat' split at h9) <;>simp at h9))
theorem GN {op:BinOp} {t:TypeId} {x y:ba} {a:vH} (h:Nj X op t x y=some a):a.kI=false:=by
 unfold Nj at h
 repeat' split at h
 all_goals first
  | (injection h with h;subst h;rfl)
  | (simp only[ajr] at h;obtain⟨_,_,rfl⟩:=h;rfl)
  | (simp at h;done)
theorem vA {α:Type} {x:Option α} {f:α->vH} {b:vH} (h:x.map f=some b) (hf: ∀a,(f a).kI=false):b.kI=false:=by
 cases x with
 | none=>simp at h
 | some a=>simp at h;subst h;exact hf a
theorem Dy {h:Hints} {dst:Nat} {x:Operand} {a:vH} (ht:Ce X h dst x=some a):a.kI=false:=by
 unfold Ce at ht;split at ht
 .injection ht with ht;subst ht;rfl
 split at ht
 .exact vA ht fun _=>rfl
 exact vA ht fun _=>rfl
theorem Ju {h:Hints} {dst:Nat} {op:Op} {b:vH} (hn: ∀c,op≠ .call c) (a:Dm X h dst op=some b):b.kI=false:=by
 unfold Dm at a;split at a;all_goals try exact absurd rfl (hn _)
 all_goals
  repeat' split at a
  all_goals first
   | (injection a with a;subst a;rfl)
   | (injection a with a;subst a;split<;>rfl)
   | exact vA a fun _=>rfl
   | exact GN a
   | exact Dy a
   | (exfalso;simp at a;done)
theorem LZ (i: ∀t1 t2 k,X.r5 t1=some k->X.r5 t2=some k->t1=t2) (j: ∀f F aL res,X.gA F=some f->C f aL=some res->bL X.toTrEnv F aL res) (hM: ∀f F h,E.Fc f=some h->X.gA F=some f->yP X.toTrEnv F h):sA X E C:=by
 intro h dst o l a T μ v σ' hr b e;cases hc:l.kI with
 | true=>
   cases d:o.op with
   | call c=>
     rw[d] at b;simp only[Dm] at b;exact Uw j hM hr d b hc e
   | _=>
     have:=Ju (by rw[d];simp) b;rw[this] at hc;simp at hc
 | false=>
   obtain⟨m,val,w',φ',Jv,h1,h2,h3⟩:=Ug i hr b hc e;refine⟨m,fun g Q hn=> ?_⟩;unfold Oper.wp;rcases Jv with Jv| ⟨Jv,rfl⟩
   .rw[Jv];exact hn _ _ _ h1 h2 h3
   rw[Jv];exact hn _ _ _ h1 h2 h3
end
end Go.AM
namespace Go.AM
open Go Go.RowKit
theorem qE: ∀l:List V,V.erases l=l.map V.erase
 | []=>rfl
 | v::vs=>by simp only[V.erases,List.map_cons,qE vs]
theorem eB (l:List V): (V.erases l).length=l.length:=by rw[qE];simp
theorem xw (v:V):v.erase.aZ=v.aZ:=by cases v<;>rfl
theorem Jw (v:V):v.erase.isAgg=v.isAgg:=by cases v<;>rfl
theorem nJ (v:V):v.erase.dw=v.dw:=by unfold V.dw;rw[Jw,xw]
theorem Jy (v:V):v.erase.cells=V.erases v.cells:=by cases v<;>rfl
theorem Dz (v:V) (sz:Nat):bj v.erase sz=bj v sz:=by unfold bj;rw[Jy,eB,nJ]
theorem nK {p:V->Bool} (hp: ∀v,p v.erase=p v): ∀l:List V,(V.erases l).all p=l.all p
 | []=>rfl
 | v::vs=>by simp only[V.erases,ajM,hp,nK hp vs]
mutual
theorem gG: ∀v:V,v.erase.az=v.az
 | .agg cs=>by simp only[V.erase,V.az];exact cS cs
 | .tuple cs=>by simp only[V.erase,V.az];exact cS cs
 | .mlit es=>by simp only[V.erase,V.az];exact cS es
 | .fn f cs=>by simp only[V.erase,V.az];exact cS cs
 | .bfn f cs=>by simp only[V.erase,V.az];exact cS cs
 | .iface t v=>by simp only[V.erase,V.az];exact gG v
 | .litk .. | .epk .. | .lit .. | .own .. | .eptr .. | .msl .. | .mptr .. | .bool _| .int .. | .float _| .str _| .nilp| .nilfn| .nili| .nils| .sl .. | .ptr .. | .mp .. | .it .. | .any=>rfl
theorem cS: ∀l:List V,V.al (V.erases l)=V.al l
 | []=>rfl
 | v::vs=>by simp only[V.erases,V.al,gG v,cS vs]
end
theorem o7 (es:List V) (off len:Nat):aN (V.erases es) off len=V.erases (aN es off len):=by simp only[aN,qE,alx,List.map_drop]
section
variable {X X':Ctx} {μ μ':Mu}
mutual
theorem aj.erase (j:X'.toTrEnv=X.toTrEnv) (hw:μ'.w=μ.w) (hφ:μ'.φ=μ.φ) (c: ∀r,(μ'.O r).gen=(μ.O r).gen/\(μ'.O r).sz=(μ.O r).sz) (d: ∀b,Own X' μ' b->Own X μ b): ∀ {x:V} {v:Value},aj X μ x v->aj X' μ' x.erase v
 | .bool _,_,h| .int ..,_,h| .float _,_,h| .str _,_,h| .nilp,_,h| .nilfn,_,h| .nili,_,h| .nils,_,h=>by simpa [V.erase,aj] using h
 | .any,_,_=>by simp[V.erase,aj]
 | .own ..,_,h| .msl ..,_,h| .mptr ..,_,h=>by simp[aj] at h
 | .agg cs,_,h=>by
   simp only[V.erase,aj] at h ⊢;obtain⟨h1,vs,rfl,h2⟩:=h;exact⟨by rw[nK xw];exact h1,vs,rfl,ag.erase j hw hφ c d h2⟩
 | .tuple cs,_,h=>by
   simp only[V.erase,aj] at h ⊢;obtain⟨vs,rfl,h2⟩:=h;exact⟨vs,rfl,ag.erase j hw hφ c d h2⟩
 | .bfn f cs,_,h=>by
   simp only[V.erase,aj] at h ⊢;obtain⟨F,l,rfl,h1,h2⟩:=h;exact⟨F,l,rfl,by rw[j];exact h1,ag.erase j hw hφ c d h2⟩
 | .fn f cs,_,h=>by
   simp only[V.erase,aj] at h ⊢;obtain⟨F,l,rfl,h1,h2⟩:=h;exact⟨F,l,rfl,by rw[j];exact h1,ag.erase j hw hφ c d h2⟩
 | .iface t x,_,h=>by
   simp only[V.erase,aj] at h ⊢;obtain⟨F,y,rfl,h1,h2⟩:=h;exact⟨F,y,rfl,by rw[j];exact h1,aj.erase j hw hφ c d h2⟩
 | .lit sz xs,_,h=>by
   simp only[V.erase,aj] at h ⊢;obtain⟨h0,k,a,cap,vs,rfl,h1,h2,h3⟩:=h;refine⟨by rw[cS];exact h0,by rw[nK nJ];exact k,a,cap,vs,by rw[eB],by rw[eB];exact h1,ag.erase j hw hφ c d h2,h3.imp (fun h=>by rw[h];rfl) ?_⟩;rintro⟨b,o,rfl,hb,hs,hr⟩;exact⟨b,o,rfl,fun hh=>hb (d b hh),by rw[hw];exact hs,by rw[hw];exact hr⟩
 | .litk sz xs,_,h=>by
   simp only[V.erase,aj] at h ⊢;obtain⟨h0,k,a,cap,vs,rfl,h1,h2,h3⟩:=h;refine⟨by rw[cS];exact h0,by rw[nK nJ];exact k,a,cap,vs,by rw[eB],by rw[eB];exact h1,ag.erase j hw hφ c d h2,h3.imp (fun h=>by rw[h];rfl) ?_⟩;rintro⟨rfl,hb,hs,hr⟩;exact⟨_,_,rfl,fun hh=>hb (d _ hh),by rw[hw];exact hs,by rw[hw];exact hr⟩
 | .sl r g off len,_,h=>by
   simp only[V.erase,aj] at h ⊢;rw[hφ,(c r).1,(c r).2];exact h
 | .ptr r g idx off,_,h=>by
   simp only[V.erase,aj] at h ⊢;rw[hφ,(c r).1,(c r).2];exact h
 | .eptr e off,_,h=>by
   simp only[V.erase,aj] at h ⊢;obtain⟨h0,k,b,o,sz,x,rfl,hb,hs,h1,hr⟩:=h;exact⟨by rw[gG];exact h0,by rw[nJ];exact k,b,o,sz,x,rfl,fun hh=>hb (d b hh),by rw[hw];exact hs,aj.erase j hw hφ c d h1,by rw[hw];exact hr⟩
 | .epk i sz e off,_,h=>by
   simp only[V.erase,aj] at h ⊢;obtain⟨h0,k,x,rfl,hb,hs,h1,hr⟩:=h;exact⟨by rw[gG];exact h0,by rw[nJ];exact k,_,X.tok.2+i*sz,sz,x,rfl,fun hh=>hb (d _ hh),by rw[hw];exact hs,aj.erase j hw hφ c d h1,by rw[hw];exact hr⟩
 | .mp r g,_,h| .it r g,_,h=>by
   simp only[V.erase,aj] at h ⊢;rw[hφ,(c r).1,(c r).2];exact h
 | .mlit es,_,h=>by simp only[V.erase,aj] at h ⊢;obtain⟨h0,h⟩:=h;refine⟨by rw[cS];exact h0,h.imp (fun h=> ⟨by rw[h.1];rfl,h.2⟩) ?_⟩;rintro⟨a,ents,clock,rfl,hb,hs,h1,h2⟩;exact⟨a,ents,clock,rfl,fun hh=>hb (d a hh),by rw[hw];exact hs,by rw[hw];exact h1,ag.erase j hw hφ c d h2⟩
theorem ag.erase (a:X'.toTrEnv=X.toTrEnv) (hw:μ'.w=μ.w) (hφ:μ'.φ=μ.φ) (c: ∀r,(μ'.O r).gen=(μ.O r).gen/\(μ'.O r).sz=(μ.O r).sz) (d: ∀b,Own X' μ' b->Own X μ b): ∀ {xs:List V} {vs:List Value},ag X μ xs vs->ag X' μ' (V.erases xs) vs
 | [],[],_=>by simp[V.erases,ag]
 | [],_::_,h=>by simp[ag] at h
 | _::_,[],h=>by simp[ag] at h
 | x::xs,v::vs,h=>by simp only[V.erases,ag] at h ⊢;exact⟨aj.erase a hw hφ c d h.1,ag.erase a hw hφ c d h.2⟩
end
end
def eu (O:Nat->Obj):Nat->Obj:=fun r=> {O r with es:=(O r).es.map V.erases}
section
variable {X:TrEnv} {B:Nat->Prop} {K K':Nat×Nat} {w:World} {φ:Nat->Row} {O:Nat->Obj}
theorem qF {b:Nat}: (Mu.mk w φ (eu O)).own b↔(Mu.mk w φ O).own b:=by simp only[Mu.own,eu,Option.isSome_map]
theorem E0 {x:V} {v:Value} (h:aj ⟨X,B,K⟩ ⟨w,φ,O⟩ x v):aj ⟨X,B,K'⟩ ⟨w,φ,eu O⟩ x.erase v:=
 aj.erase (X:=⟨X,B,K⟩) (X':=⟨X,B,K'⟩) (μ:=⟨w,φ,O⟩) (μ':=⟨w,φ,eu O⟩) rfl rfl rfl (fun _=> ⟨rfl,rfl⟩) (fun b hb=>hb.imp qF.1 id) h
theorem vB {xs:List V} {vs:List Value} (h:ag ⟨X,B,K⟩ ⟨w,φ,O⟩ xs vs):ag ⟨X,B,K'⟩ ⟨w,φ,eu O⟩ (V.erases xs) vs:=
 ag.erase (X:=⟨X,B,K⟩) (X':=⟨X,B,K'⟩) (μ:=⟨w,φ,O⟩) (μ':=⟨w,φ,eu O⟩) rfl rfl rfl (fun _=> ⟨rfl,rfl⟩) (fun b hb=>hb.imp qF.1 id) h
theorem zG (h:bq ⟨X,B,K⟩ ⟨w,φ,O⟩):bq ⟨X,B,K'⟩ ⟨w,φ,eu O⟩ where
 ok:=fun r es bC=>by
  simp only[eu,ajr] at bC;obtain⟨a,Ux,rfl⟩:=bC;rcases h.ok r a Ux with⟨h1,h2,h3,h4⟩ | ⟨h1,h2,ob,h3,h4⟩
  .refine .inl ⟨h1,by rw[eB];exact h2,by rw[nK (fun v=>Dz v _)];exact h3,h4.imp id ?_⟩;rintro⟨c,T,vs,k1,k2,k3,k4⟩;exact⟨c,T,vs,k1,k2,vB k3,k4⟩
  refine .inr ⟨h1,h2,ob,h3,?_⟩;rcases h4 with⟨ents,clock,k1,k2,k3⟩ | ⟨s,pos,k1,k2⟩ | ⟨mo,since,UZ,k1,k2,k3⟩
  .exact .inl ⟨ents,clock,k1,vB k2,k3⟩
  .exact .inr (.inl ⟨s,pos,k1,by rw[k2];rfl⟩)
  refine .inr (.inr ⟨mo,since,V.erases UZ,k1,by rw[k2];rfl,k3.imp (fun h=> ⟨h.1,by rw[h.2];rfl⟩) ?_⟩);rintro⟨m,ents,l1,l2,l3,l4,l5,l6⟩;exact⟨m,ents,l1,fun hh=>l2 (hh.imp qF.1 id),l3,l4,l5,vB l6⟩
 inj:=fun r r' bW h1 h2 h3 h4=>h.inj r r' bW (by simpa [eu] using h1) (by simpa [eu] using h2) h3 h4
 vE:=fun r h1 h2=>h.vE r (by simpa [eu] using h1) h2
 blt:=h.blt
theorem pU {n:Nat} {T T':Nat->V} {c c':V} {rs:List Nat} (h:cQ n ⟨T,O⟩ c=some (c',rs)):cQ n ⟨T',eu O⟩ c.erase=some (c'.erase,rs):=by
 have other: (∀r g off len,c≠ .sl r g off len)->c.az=true->c'=c/\rs=[]->cQ n ⟨T',eu O⟩ c.erase=some (c'.erase,rs):=by
  rintro a hp ⟨rfl,rfl⟩;have Gm:c'.erase.az=true:=by rw[gG];exact hp
  cases c'<;>first| exact absurd rfl (a _ _ _ _) | (simp only[V.erase] at Gm ⊢;simp only[cQ,Gm,if_true])
 unfold cQ at h;split at h
 .rename_i r g off len;simp only[V.erase,cQ];split at h
  .rename_i es bC;have b: (eu O r).es=some (V.erases es):=by have: (O r).es=some es:=bC;simp only[eu,this,ajE]
   simp only[b];split at h
   .rename_i hc;have E8: (eu O r).gen=g/\off+len<=(V.erases es).length/\(eu O r).arr=true/\V.al (aN (V.erases es) off len)=true:=
     ⟨hc.1,by rw[eB];exact hc.2.1,hc.2.2.1,by rw[o7,cS];exact hc.2.2.2⟩
    rw[if_pos E8];split at h
    .rename_i hr;rw[if_pos hr];simp only[ajq,ajv] at h;obtain⟨rfl,rfl⟩:=h;rfl
    rename_i hr;rw[if_neg hr];split at h
    .rename_i hf;rw[if_pos (show (eu O r).fz=true from hf)];simp only[ajq,ajv] at h;obtain⟨rfl,rfl⟩:=h;simp only[V.erase,o7];rfl
    rename_i hf;rw[if_neg (show ¬ (eu O r).fz=true from hf)];simp only[ajq,ajv] at h;obtain⟨rfl,rfl⟩:=h;simp only[V.erase,o7];rfl
   simp at h
  simp at h
 rename_i a;split at h
 .rename_i hp;simp only[ajq,ajv] at h;obtain⟨rfl,rfl⟩:=h;exact other (fun r g off len e=>a r g off len e) hp ⟨rfl,rfl⟩
 simp at h
theorem j9 {n:Nat} {T T':Nat->V}: ∀ {cs a:List V} {rs:List Nat},cC n ⟨T,O⟩ cs=some (a,rs)->cC n ⟨T',eu O⟩ (V.erases cs)=some (V.erases a,rs)
 | [],a,rs,h=>by
   simp only[cC,ajq,ajv] at h;obtain⟨rfl,rfl⟩:=h;rfl
 | c::cs,a,rs,h=>by
   simp only[cC] at h;split at h
   .rename_i c1 r1 b d h1 h2;simp only[ajq,ajv] at h;obtain⟨rfl,rfl⟩:=h;simp only[V.erases,cC,pU (T':=T') h1,j9 h2]
   simp at h
theorem uH {n:Nat} {T T':Nat->V} {v v':V} {rs:List Nat} (h:ej n ⟨T,O⟩ v=some (v',rs)):ej n ⟨T',eu O⟩ v.erase=some (v'.erase,rs):=by
 unfold ej at h;split at h
 .rename_i hp;simp only[ajq,ajv] at h;obtain⟨rfl,rfl⟩:=h;simp only[ej,gG,hp,if_true]
 rename_i hp;have Gm: ¬v.erase.az=true:=by rw[gG];exact hp
 unfold ej;rw[if_neg Gm];split at h
 .rename_i cs;split at h
  .rename_i a b h1;simp only[ajq,ajv] at h;obtain⟨rfl,rfl⟩:=h;simp only[V.erase,j9 (T':=T') h1]
  simp at h
 .rename_i f cs;split at h
  .rename_i a b h1;split at h
   .rename_i hc;simp only[ajq,ajv] at h;obtain⟨rfl,rfl⟩:=h;simp only[V.erase,j9 (T':=T') h1,cS,hc,if_true]
   simp at h
  simp at h
 rename_i h1 h2;have:=pU (T':=T') h;cases v<;>first| exact absurd rfl (h1 _) | exact absurd rfl (h2 _ _) | exact this
theorem sH {n:Nat} {T T':Nat->V}: ∀ {cs a:List V} {rs:List Nat},dN n ⟨T,O⟩ cs=some (a,rs)->dN n ⟨T',eu O⟩ (V.erases cs)=some (V.erases a,rs)
 | [],a,rs,h=>by
   simp only[dN,ajq,ajv] at h;obtain⟨rfl,rfl⟩:=h;rfl
 | c::cs,a,rs,h=>by
   simp only[dN] at h;split at h
   .rename_i c1 r1 b d h1 h2;simp only[ajq,ajv] at h;obtain⟨rfl,rfl⟩:=h;simp only[V.erases,dN,uH (T':=T') h1,sH h2]
   simp at h
theorem dT.erase {n:Nat} {T T':Nat->V} {v0 v:V} {rs:List Nat} (h:dT n ⟨T,O⟩ v0 v rs):dT n ⟨T',eu O⟩ v0.erase v.erase rs:=by
 cases h with
 | one h=>exact .one (uH h)
 | many h=>simp only[V.erase];exact .many (sH h)
end
theorem L1 {v:V} (h:v.az=true): (A9 v).az=true:=by
 unfold A9;split
 .rfl
 exact h
theorem xx (v:V): (A9 v).aZ=v.aZ:=by unfold A9;split<;>rfl
section
variable {X:TrEnv} {B:Nat->Prop} {K:Nat×Nat} {μ:Mu}
theorem PM (c:Nat) {x:V} {v:Value} (hx: ∀K,aj ⟨X,B,K⟩ μ x v): ∃K,aj ⟨X,B,K⟩ μ (Hq c x) v:=by
 unfold Hq;split
 .rename_i cs;by_cases hc: ∃sz xs,cs[c]? =some (.lit sz xs)/\xs≠[]
  .obtain⟨sz,xs,n,bW⟩:=hc;obtain⟨h1,vs,rfl,h2⟩:cs.all V.aZ=true/\ ∃vs,v= .agg vs/\ag ⟨X,B,(0,0)⟩ μ cs vs.toList:=by have:=hx (0,0);simpa only[aj] using this
   obtain⟨u,s,p⟩:=h2.get n;simp only[aj] at p;obtain⟨j,g,a,cap,q,rfl,k,r,t⟩:=p;obtain⟨b,o,rfl,w,A,G⟩:=t.resolve_left bW;refine⟨(b,o),?_⟩;have HI:ag ⟨X,B,(b,o)⟩ μ cs vs.toList:=by have:=hx (b,o);simp only[aj] at this;obtain⟨_,vs',e,h⟩:=this;injection e with e;subst e;exact h
   simp only[aj];refine⟨?_,vs,rfl,?_⟩
   .rw[ajx] at h1 ⊢;intro y hy;obtain⟨i,hi⟩:=aj0.1 hy;rw[aj1,akW,ajr] at hi;obtain⟨z,d,rfl⟩:=hi;have Vh:=h1 z (List.mem_of_getElem? d);split
    .rw[xx];exact Vh
    exact Vh
   refine ag.Ch (by rw[List.length_modify];exact HI.length) fun i y u' hy D0=> ?_;rw[aj1,akW,ajr] at hy;obtain⟨z,d,rfl⟩:=hy;obtain⟨C,XC,f⟩:=HI.get d;rw[D0] at XC;injection XC with XC;subst XC;by_cases Yq:c=i
   .subst Yq;rw[if_pos rfl];rw[n] at d;injection d with d;subst d;rw[s] at D0;injection D0 with D0;subst D0;simp only[A9,aj];simp only[aj] at f;obtain⟨_,_,a',Pm,Vf,e,_,D,l⟩:=f;injection e with E H F;subst E;subst F;refine⟨j,g,_,cap,Vf,rfl,k,D,.inr ⟨rfl,w,A,?_⟩⟩;rcases l with l| ⟨b',I,e,_,_,m⟩
    .exact absurd l bW
    simp only[ajq,Addr.mk.injEq,and_true] at e;obtain⟨rfl,rfl⟩:=e;exact m
   rw[if_neg Yq];exact f
  refine⟨(0,0),?_⟩;have h0:=hx (0,0);simp only[aj] at h0 ⊢;obtain⟨h1,vs,rfl,h2⟩:=h0;refine⟨?_,vs,rfl,?_⟩
  .rw[ajx] at h1 ⊢;intro y hy;obtain⟨i,hi⟩:=aj0.1 hy;rw[aj1,akW,ajr] at hi;obtain⟨z,d,rfl⟩:=hi;have Vh:=h1 z (List.mem_of_getElem? d);split
   .rw[xx];exact Vh
   exact Vh
  refine ag.Ch (by rw[List.length_modify];exact h2.length) fun i y u' hy D0=> ?_;rw[aj1,akW,ajr] at hy;obtain⟨z,d,rfl⟩:=hy;obtain⟨C,XC,f⟩:=h2.get d;rw[D0] at XC;injection XC with XC;subst XC;by_cases Yq:c=i
  .subst Yq;rw[if_pos rfl];unfold A9;split
   .rename_i sz xs;have Mf:xs=[]:=akJ fun bW=>hc ⟨sz,xs,d,bW⟩;subst Mf;simp only[aj] at f ⊢;obtain⟨j,g,a,cap,q,rfl,k,r,_⟩:=f;exact⟨j,g,a,cap,q,rfl,k,r,.inl trivial⟩
   exact f
  rw[if_neg Yq];exact f
 exact⟨(0,0),hx (0,0)⟩
theorem jr (p:Nat×Nat) (args:List V): (cR p args).length=args.length:=by simp[cR,eB]
theorem DA {p:Nat×Nat} {args:List V} (h:V.al args=true):V.al (cR p args)=true:=by
 refine uK fun x hx=> ?_;obtain⟨i,hi⟩:=aj0.1 hx;have he:V.al (V.erases args)=true:=by rw[cS];exact h
 rw[cR,aj1,akW,ajr] at hi;obtain⟨z,b,rfl⟩:=hi;have Vh:=kM he (List.mem_of_getElem? b);split
 .unfold Hq;split
  .rename_i cs;simp only[V.az] at Vh ⊢;refine uK fun y hy=> ?_;obtain⟨j,a⟩:=aj0.1 hy;rw[aj1,akW,ajr] at a;obtain⟨u,c,rfl⟩:=a;have D0:=kM Vh (List.mem_of_getElem? c);split
   .exact L1 D0
   exact D0
  exact Vh
 exact Vh
theorem E1 {F:FuncId} {p:Nat×Nat} {args:List V} {res:fu} (hp:V.al args=true) (h:bL X F (cR p args) res):bL X F args ⟨res.val.erase,[]⟩:=by
 intro B K w φ0 vals Ez hv q;have l:=DA (p:=p) hp;have m: (enter args).O=fun _=>bJ:=by rw[eF hp]
 have j: (enter (cR p args)).O=fun _=>bJ:=by rw[eF l]
 have C: ∀t a,args[t]? =some a->(enter args).T t=a:=fun t a ha=>by rw[eF hp];simp[List.getD,ha]
 have n: ∀t a,(cR p args)[t]? =some a->(enter (cR p args)).T t=a:=fun t a ha=>by rw[eF l];simp[List.getD,ha]
 have g: ∀K' t (x:V) v,(V.erases args)[t]? =some x->vals[t]? =some v->aj ⟨X,B,K'⟩ ⟨w,φ0,fun _=>bJ⟩ x v:=fun K' t x v hx AD=>by rw[qE,ajF,ajr] at hx;obtain⟨y,hy,rfl⟩:=hx;have:=hv t v AD;rw[C t y hy,m] at this;have:=E0 (K':=K') this;exact this
 obtain⟨K',o⟩: ∃K',∀x v,(V.erases args)[p.1]? =some x->vals[p.1]? =some v->aj ⟨X,B,K'⟩ ⟨w,φ0,fun _=>bJ⟩ (Hq p.2 x) v:=by
  cases hx: (V.erases args)[p.1]? with
  | none=>exact⟨(0,0),fun x v h1=>by simp at h1⟩
  | some x=>
    cases D:vals[p.1]? with
    | none=>exact⟨(0,0),fun x v _ h1=>by simp at h1⟩
    | some u=>
      obtain⟨K',o⟩:=PM (X:=X) (B:=B) (μ:=⟨w,φ0,fun _=>bJ⟩) p.2 (fun K'=>g K' p.1 x u hx D);exact⟨K',fun y v h1 h2=>by injection h1 with h1;injection h2 with h2;subst h1;subst h2;exact o⟩
 have k:=h B K' w φ0 vals (by rw[jr];exact Ez) (fun t v AD=>by
  rw[j];have E:t< (cR p args).length:=by rw[jr,<-Ez];exact(ajp.1 AD).1
  obtain⟨y,r⟩: ∃y,(cR p args)[t]? =some y:=⟨_,aju E⟩;rw[n t _ r];have Kx:=r;simp only[cR] at Kx;rw[aj1,akW,ajr] at Kx;obtain⟨z,s,CW⟩:=Kx;rw[<-CW];split
  . rename_i e
    subst e;exact o z v s AD
  .exact g K' t z v s AD) (by
  rw[j];rw[m] at q;have:=zG (K':=K') q;exact this)
 rw[j] at k;rw[m];have i: ∀val w',(∃φ' T' O' v0 d,Le ⟨w,φ0,fun _=>bJ⟩ ⟨w',φ',O'⟩/\bq ⟨X,B,K'⟩ ⟨w',φ',O'⟩/\
    aj ⟨X,B,K'⟩ ⟨w',φ',O'⟩ v0 val/\dT (cR p args).length ⟨T',O'⟩ v0 res.val d/\distinct d=true/\cV O' 0 (cR p args)=some res.outs)->
    ∃φ' T' O' v0 d,Le ⟨w,φ0,fun _=>bJ⟩ ⟨w',φ',O'⟩/\bq ⟨X,B,K⟩ ⟨w',φ',O'⟩/\
    aj ⟨X,B,K⟩ ⟨w',φ',O'⟩ v0 val/\dT args.length ⟨T',O'⟩ v0 (fu.mk res.val.erase []).val d/\distinct d=true/\cV O' 0 args=some (fu.mk res.val.erase []).outs:=by
  rintro val w' ⟨φ',T',O',v0,d,f,G,H,A,I,L⟩;rw[jr] at A;refine⟨φ',T',eu O',v0.erase,d,?_,zG G,E0 H,A.erase,I,kY hp⟩;exact⟨f.size,fun b hb hn=> ⟨(f.cn b hb hn).1,fun J=> (f.cn b hb hn).2 (qF.1 J)⟩,f.gen,f.row,f.os,f.output,f.tape,f.frozen⟩
 unfold vl at k ⊢;split at k
 .exact i _ _ k
 .refine Calls.mono k fun e w' he=> ?_;cases e with
  | returned v=>exact i _ _ he
  | panicked c=>exact he.elim
  | outgrown=>exact he.elim
 exact k.elim
end
end Go.AM
namespace Go.AM
open Go Go.RowKit
structure yQ (X:TrEnv) (E:Env):Prop where
 inj: ∀t1 t2 k,X.r5 t1=some k->X.r5 t2=some k->t1=t2
 mixed:X.P.follows .mixedOrders=true
 fn: ∀f af F,E.fn f=some af->X.gA F=some f-> ∃fn h c,X.P.funcs[F]? =some fn/\(fn.name== "runtime.NumGoroutine")=false/\fn.body=some c/\Fm X h fn=some af/\af.nparams<=fn.ntmps
 ext: ∀f aL res F,E.ext f aL=some res->X.gA F=some f->bL X F aL res
 iter: ∀g F caps xs,E.iter g caps=some xs->X.gA F=some g-> ∀ (B:Nat->Prop) (K:Nat×Nat) (μ:Mu) (lb:Array Value),ag ⟨X,B,K⟩ μ caps lb.toList->bq ⟨X,B,K⟩ μ->AG ⟨X,B,K⟩ μ F lb xs
 Fc: ∀f F h,E.Fc f=some h->X.gA F=some f->yP X F h
 hyb: ∀f h F,E.hyb f=some h->X.gA F=some f-> ∀C:bB,(∀f F aL res,X.gA F=some f->C f aL=some res->bL X F aL res)-> ∀aL res,h C aL=some res->bL X F aL res
section
variable {X:Ctx} {T:Nat->V} {a:Go.Act} {μ:Mu}
theorem GO (hr:Rel X T a μ) {r:ResultVar} {r':vF} (b:xd X r=some r') {v:V} (h:mT ⟨T,μ.O⟩ r'=some v):
   ∃val,((match r with| .tmp t=>pure (a.tmps.getD t undef) | .cell c t=>do loadVar t (<-asAddr (a.tmps.getD c undef)):Sem Value)).run X.P μ.w= .ok val μ.w/\aj X μ v val:=by
 cases r with
 | tmp t=>
   simp[xd] at b;subst b;simp only[mT,ajq] at h;subst h;exact⟨_,rfl,hr.tmps t⟩
 | cell c t=>
   simp only[xd] at b;split at b
   .rename_i g sz hg hn;injection b with b;subst b;simp only[mT] at h;split at h
    .rename_i r l idx off e;split at h
     .rename_i es bC;split at h
      .rename_i cT;split at h
       .rename_i el uU;have hx:=hr.tmps c;rw[e] at hx;simp only[aj] at hx;obtain⟨p,Yo,_,d⟩:=hx;obtain⟨f,d⟩:=d cT;obtain⟨m,i,_,j⟩:=I5 hr.bp bC uU f;obtain⟨val,hl,k⟩:=tD i h hg hn j;refine⟨val,?_,k⟩;rw[d] at Yo;show (do loadVar t (<-asAddr (a.tmps.getD c undef)):Sem Value).run X.P μ.w=_;rw[Yo];simpa [Sem.run_bind,asAddr,Sem.run] using hl
       simp at h
      simp at h
     simp at h
    simp at h
   simp at b
theorem xy (hr:Rel X T a μ): ∀ {rs:List ResultVar} {rs':List vF} {vs:List V},kD X rs=some rs'->eW ⟨T,μ.O⟩ rs'=some vs->
   ∃vals,(rs.mapM (fun r=> (match r with| .tmp t=>pure (a.tmps.getD t undef) | .cell c t=>do loadVar t (<-asAddr (a.tmps.getD c undef)):Sem Value))).run X.P μ.w= .ok vals μ.w/\ag X μ vs vals
 | [],rs',vs,h1,h2=>by
   simp[kD] at h1;subst h1;simp[eW] at h2;subst h2;exact⟨[],by simp[Sem.run],by simp[ag]⟩
 | r::rs,rs',vs,h1,h2=>by
   simp only[kD] at h1;split at h1
   .rename_i r1 b d e;injection h1 with h1;subst h1;simp only[eW] at h2;split at h2
    .rename_i v f g h;injection h2 with h2;subst h2;obtain⟨val,i,j⟩:=GO hr d g;obtain⟨vals,k,l⟩:=xy hr e h;refine⟨val::vals,?_,by simp only[ag];exact⟨j,l⟩⟩;simp only[List.mapM_cons,Sem.run_bind,i,Result.andThen,k];rfl
    simp at h2
   simp at h1
theorem uo (hr:Rel X T a μ) {fn:Func} {rs':List vF} {vs:List V} (h1:kD X fn.results.toList=some rs') (h2:eW ⟨T,μ.O⟩ rs'=some vs):
  ∃vals,(results fn a.tmps).run X.P μ.w= .ok (match vals with| [v]=>v| vs=> .tuple vs.toArray) μ.w/\ag X μ vs vals:=by
 obtain⟨vals,b,d⟩:=xy hr h1 h2;refine⟨vals,?_,d⟩;have hm: (fn.results.mapM (fun r=> (match r with| .tmp t=>pure (a.tmps.getD t undef) | .cell c t=>do loadVar t (<-asAddr (a.tmps.getD c undef)):Sem Value))).run X.P μ.w= .ok vals.toArray μ.w:=by rw[Array.mapM_eq_mapM_toList];show Sem.run X.P (_ >>=fun l=>pure (List.toArray l)) _=_;rw[Sem.run_bind,b];rfl
 unfold results;rw[Sem.run_bind];refine(congrArg (fun r=>Result.andThen r (fun vs w'=>Sem.run X.P (pure (if h:vs.size=1 then vs[0] else Value.tuple vs)) w')) hm).trans ?_
 match vals with
 | []=>rfl
 | [v]=>rfl
 | _::_::_=>rfl
end
section
variable {X:TrEnv} {E:Env}
theorem PN {af:aT} {args:List V} {σ:St} {res:fu} (h:leave af args σ=some res):
  ∃vs,eW σ af.results=some vs/\cV σ.O 0 args=some res.outs/\ ∃b,distinct b=true/\
   ∀v0,v0=(match vs with| [v]=>v| vs=> .tuple vs)->dT args.length σ v0 res.val b:=by
 unfold leave at h;split at h
 .rename_i vs outs h1 h2;refine⟨vs,h1,?_⟩;split at h
  .rename_i v rs hx;split at h
   .rename_i hd;injection h with h;subst h;refine⟨h2,rs,hd,?_⟩;rintro v0 rfl
    match vs,hx with
    | [u],hx=>
      simp only[dN] at hx;split at hx
      . rename_i e r f rs' c a
        simp only[ajq,ajv,alu] at hx a;obtain⟨⟨rfl,rfl⟩,rfl⟩:=hx;obtain⟨_,rfl⟩:=a;simpa using dT.one c
      simp at hx
    | [],hx=>simp[dN] at hx
    | _::_::_,hx=>
      simp only[dN] at hx;split at hx
      . rename_i c a
        split at a
        .simp only[ajq,ajv] at hx a;obtain⟨g,_⟩:=a;subst g;simp at hx
        simp at a
      simp at hx
   simp at h
  .rename_i vs' rs d hx;split at h
   .rename_i hd;injection h with h;subst h;refine⟨h2,rs,hd,?_⟩;rintro v0 rfl
    match vs,hx with
    | [u],hx=>
      exfalso;simp only[dN] at hx;split at hx
      . rename_i e r f rs' c a
        simp only[ajq,ajv] at hx a;obtain⟨rfl,rfl⟩:=hx;obtain⟨rfl,_⟩:=a;exact d _ rfl
      simp at hx
    | [],hx=>exact .many hx
    | _::_::_,hx=>exact .many hx
   simp at h
  simp at h
 simp at h
theorem r6 {P:Program} {fn:Func} {tmps:Array Value} {R:Ending->World->Prop} {n:Fp} (Pw:World->Prop) (c: ∀w D,n.fl<=D->w.heap[D]? =some (.deferred (some []))->Pw w->Pw (w.putObj D (.deferred none)))
   (d: ∀w,Pw w-> ∃v,(results fn tmps).run P w= .ok v w/\R (.returned v) w) {b:List Deferred} {w:World} (hm:Marks n w b) (hw:Pw w):LeavesInM (Fr none) 0 P fn tmps R b .returning w:=by
 obtain⟨_,Ds,rfl,kc,f⟩:=hm
 revert w
 induction Ds with
 | nil=>intro w hw _ _;exact d w hw
 | cons D Ds g=>
   intro w hw hf hm;obtain⟨h1,h2⟩:=hm D ajl;rw[ako] at kc;refine⟨ajl,.inl ⟨D,w.putObj D (.deferred none),rfl,run_takeDeferred h2,?_⟩⟩;refine g kc.2 (c w D h1 h2 hw) ⟨by simpa [World.putObj] using hf.1,fun l hl=> ?_⟩ fun D' a=> ⟨(hm D' (by simp[a])).1,?_⟩
   .obtain⟨L,k⟩:=hf.2 l hl;exact⟨L,(World.putObj_heap_other (fun e=>by rw[e,h2] at k;simp at k)).trans k⟩
   rw[World.putObj_heap_other (fun e=>kc.1 (by rw[<-e];exact a))];exact(hm D' (by simp[a])).2
theorem qG (i:yQ X E) {n:Nat} (s: ∀m,m<n-> ∀ (B:Nat->Prop) (K:Nat×Nat),sA ⟨X,B,K⟩ E (dM E (exec E m))) {f:Nat} {af:aT} {F:FuncId} (hf:E.fn f=some af) (x:X.gA F=some f)
  {args:List V} {res:fu} {e:aW} {σ:St} (hlen:args.length=af.nparams) (hx:exec E n af.body (enter args)=some (e,σ)) (he:e= .normal\/e= .ret) (hl:leave af args σ=some res):bL X F args res:=by
 obtain⟨fn,h,c,q,r,j,b,d⟩:=i.fn f af F hf x;intro B K w φ0 vals Ez hv y;have k: (callFunc F vals.toArray).run X.P w= .ok (.enter F vals.toArray) w:=by have l: (fn.name== "runtime.NumGoroutine")=false:=r;simp[callFunc,Sem.run_bind,program,Sem.run,q,l,j];simpa using r
 rw[k];unfold Fm at b;rw[j] at b;simp only at b;split at b
 .rename_i ac rs hc VQ;injection b with b;subst b;simp only[vl];refine(callsIn_wide (n:=0)).1 (callsIn_of_wp_marks (F:=Fr none) q j trivial ?_ rfl);have bM:vals.toArray.size<=fn.ntmps:=by simp[Ez,hlen];exact d
  have z:kB ⟨X,B,K⟩ ⟨w,φ0,(enter args).O⟩ ⟨fn.ntmps,w.heap.size,none⟩ (enter args) {tmps:=vals.toArray++Array.replicate (fn.ntmps - vals.toArray.size) undef,defers:=[]} w:=by
   refine⟨Marks.nil (ajw _) ajl,by simp at bM ⊢;omega,φ0,⟨fun t=> ?_,y⟩,Le.refl _⟩;by_cases ht:t<vals.length
   .have o: (vals.toArray++Array.replicate (fn.ntmps - vals.toArray.size) undef).getD t undef=vals[t]:=by simp[akM,ht]
    rw[o];exact hv t _ (aju ht)
   have o: (vals.toArray++Array.replicate (fn.ntmps - vals.toArray.size) undef).getD t undef=undef:=by simp[akM,ht,alh];split<;>rfl
   have A: (enter args).T t=ee:=by have:args[t]? =none:=akm ajk;simp[enter,this]
   rw[o,A];exact tu
  refine wpIn_mono (nz (X:=⟨X,B,K⟩) i.mixed (fun g F caps xs h1 h2 μ lb h3 h4=>i.iter g F caps xs h1 h2 B K μ lb h3 h4) (h:={h with n:=fn.ntmps}) n (fun m hm=>s m hm B K) rfl c ac _ _ e _ w hc hx z) fun ex a' w' C=> ?_;obtain⟨rfl,G,_,φ',hr,p⟩:=C;obtain⟨vs,H,I,a,J,L⟩:=PN hl;have fin:LeavesInM (Fr none) 0 X.P fn a'.tmps (fun
    | .returned val,w'=> ∃φ' T' O' v0 a,Le ⟨w,φ0,(enter args).O⟩ ⟨w',φ',O'⟩/\bq ⟨X,B,K⟩ ⟨w',φ',O'⟩/\aj ⟨X,B,K⟩ ⟨w',φ',O'⟩ v0 val/\dT args.length ⟨T',O'⟩ v0 res.val a/\distinct a=true/\cV O' 0 args=some res.outs
    | _,_=>False) a'.defers .returning w':=by
   refine r6 (fun w'=>Rel ⟨X,B,K⟩ σ.T a' ⟨w',φ',σ.O⟩/\Le ⟨w,φ0,(enter args).O⟩ ⟨w',φ',σ.O⟩) (fun M D h1 h2 ⟨hr,d⟩=> ⟨⟨fun t=>aj.cE (jv (μ:=⟨M,φ',σ.O⟩) h2 rfl rfl) (hr.tmps t),yD hr.bp h2⟩,Gs d h1⟩) (fun w' ⟨hr,p⟩=> ?_) G ⟨hr,p⟩;obtain⟨TM,r1,r2⟩:=uo hr VQ H;refine⟨_,r1,φ',σ.T,σ.O,_,a,p,hr.bp,?_,L _ rfl,J,I⟩
   match vs,TM,r2 with
   | [],[],r2=>simp only[aj];exact⟨_,rfl,by simpa using r2⟩
   | [v],[u],r2=>simp only[ag] at r2;exact r2.1
   | _::_::_,_::_::_,r2=>simp only[aj];exact⟨_,rfl,by simpa using r2⟩
   | [],_::_,r2=>simp[ag] at r2
   | _::_,[],r2=>simp[ag] at r2
   | [_],_::_::_,r2=>simp[ag] at r2
   | _::_::_,[_],r2=>simp[ag] at r2
  rcases he with rfl| rfl
  .exact fin
  exact fin
 simp at b
theorem CJ (   hE:yQ X E): ∀ (n:Nat) (f:Nat) (F:FuncId) (args:List V) (res:fu),X.gA F=some f->call E n f args=some res->bL X F args res:=by
 intro n;induction n using Nat.strongRecOn with
 | _ n e=>
   have low: ∀ (f:Nat) (F:FuncId) (args:List V) (res:fu),X.gA F=some f->fh E (exec E n) f args=some res->bL X F args res:= ?low
   .intro f F args res a h;unfold call dM at h;split at h
    .rename_i g hg;exact hE.hyb f g F hg a _ low args res h
    exact low f F args res a h
   intro f F args res a h;unfold fh at h;split at h
   .rename_i r he;injection h with h;subst h;exact hE.ext f args r F he a
   split at h
   .rename_i af hf;split at h
    .rename_i hlen;have b: ∀m,m<n-> ∀ (B:Nat->Prop) (K:Nat×Nat),sA ⟨X,B,K⟩ E (dM E (exec E m)):=fun m hm B K=>LZ hE.inj (fun f F aL res h1 h2=>e m hm f F aL res h1 h2) hE.Fc;split at h
     .split at h
      .rename_i σ hx;exact qG hE b hf a hlen hx (.inl rfl) h
      .rename_i σ hx;exact qG hE b hf a hlen hx (.inr rfl) h
      simp at h
     rename_i p hp;split at h
     .rename_i c;have d: (cR p args).length=af.nparams:=by rw[jr];exact hlen
      split at h
      .     rename_i σ hx
            rw[ajr] at h;obtain⟨r0,h,rfl⟩:=h;exact E1 c (qG hE b hf a d hx (.inl rfl) h)
      .     rename_i σ hx
            rw[ajr] at h;obtain⟨r0,h,rfl⟩:=h;exact E1 c (qG hE b hf a d hx (.inr rfl) h)
      simp at h
     simp at h
    simp at h
   simp at h
end
end Go.AM
namespace Go.AM
open Go Go.RowKit
section
variable {X:TrEnv} {F:FuncId} {fn:Func}
theorem xz {args:List V} (h:V.al args=true): (enter args).O=fun _=>bJ:=by rw[eF h]
theorem L3 (a:X.P.funcs[F]? =some fn) (c: (fn.name== "runtime.NumGoroutine")=false) (hb:fn.body.isNone=true) (hn:Extern.findNext fn=none) (he:Extern.find fn=some Extern.MathSqrt.sqrt)
  {aL:List V} {res:fu} (h:DE aL=some res):bL X F aL res:=by
 unfold DE at h;split at h
 .rename_i b;split at h
  .rename_i r hr;injection h with h;subst h;intro B K w φ0 vals hl hv d
   match vals,hl with
   | [v],_=>
     have h0:=hv 0 v rfl;have e0: (enter [V.float b]).T 0= .float b:=rfl;rw[e0] at h0;simp only[aj] at h0;subst h0;rw[run_callFunc_extern a c hb hn he];have f: (Extern.MathSqrt.sqrt #[.float .f64 b]).run X.P w= .ok (.float .f64 r) w:=by
       have e:Extern.MathSqrt.sqrt #[.float .f64 b]=(match FloatKind.f64.format.sqrt b with
        | some r=>pure (.float .f64 r)
        | none=>do pure (.float .f64 (<-choose (.nanBits .f64 b b)))):=rfl
       rw[e,hr];rfl
     have g: ([Value.float .f64 b]:List Value).toArray= #[.float .f64 b]:=rfl;rw[g,f];simp only[Result.andThen,vl];refine⟨φ0,fun _=>ee,_,.float r,[],Le.refl _,d,by simp[aj],.one (by simp[ej,V.az]),rfl,rfl⟩
  simp at h
 simp at h
def AE:Env:={fn:=fun _=>none,ext:=fun _ _=>none}
def C00:bB:=fun _ _=>none
def strip (o:bN):bN:={o with pre:=[]}
structure jy (X:TrEnv) (fn:Func) (sz lim:Nat):Prop where
 body: ∃i0 i1 i2 i3 Gq Ls Uy Uz,fn.body=some (.seq (.region i0 Gq false) (.seq (.seq (.region i1 Ls false) (.cond (.tmp 4) (.seq (.region i2 Uy false) .ret) .skip)) (.seq (.region i3 Uz false) .ret)))/\
  (jn X ({n:=fn.ntmps}:Hints) Gq Gq.toList).map (List.map strip)=some [⟨some 2,.move (.const .nils),none,[]⟩]/\
  (jn X ({n:=fn.ntmps}:Hints) Uy Uy.toList).map (List.map strip)=some [⟨some 2,.move (.const .nils),none,[]⟩]/\
  (∃zero,bj zero sz=true/\0 <sz/\(jn X ({n:=fn.ntmps}:Hints) Uz Uz.toList).map (List.map strip)=some [⟨some 5,.buildSlice 96 sz zero 0 [],none,[]⟩,⟨some 6,.move (.tmp 0),none,[]⟩,⟨some 7,.append 128 sz lim (.tmp 5) (.tmp 6),none,[]⟩,⟨some 2,.move (.tmp 7),none,[]⟩])/\
  (∃o1 o2 t e,Ls= #[o1,o2]/\(oY X ({n:=fn.ntmps}:Hints) #[o1,o2] o1).map strip=some ⟨some 3,.move (.tmp 0),none,[]⟩/\o2.dst=some 4/\o2.guard=none/\o2.op= .binOp .eql t (.tmp 3) (.const (.slice none 0 0)) t/\X.P.underlying t=some (.slice e))
 res:fn.results= #[.tmp 2]
 tmps:8<=fn.ntmps
theorem Nh {Y:Ctx} (a: ∀t1 t2 k,Y.r5 t1=some k->Y.r5 t2=some k->t1=t2):sA Y AE C00:=
 LZ a (fun _ _ _ _ _ h=>by simp[C00] at h) (fun _ _ _ h=>by simp[AE] at h)
theorem Gr {Y:Ctx} (a: ∀t1 t2 k,Y.r5 t1=some k->Y.r5 t2=some k->t1=t2) (n:Nat):sA Y AE (call AE n):=
 LZ a (fun _ _ _ _ _ h=>by simp[call,dM,fh,AE] at h) (fun _ _ _ h=>by simp[AE] at h)
theorem jE (tP: ∀t1 t2 k,X.r5 t1=some k->X.r5 t2=some k->t1=t2) (nr:X.P.funcs[F]? =some fn) (iV: (fn.name== "runtime.NumGoroutine")=false) {sz lim:Nat} (N:jy X fn sz lim)
   {aL:List V} {res:fu} (h:dX sz lim aL=some res):bL X F aL res:=by
 obtain⟨⟨i0,i1,i2,i3,Gq,Ls,Uy,Uz,ij,h0,h2,⟨zero,vD,CW,h3⟩,o1,o2,t,e,rfl,Ys,Pb,Kx,p,R⟩,jK,II⟩:=N;rw[ajr] at h0 h2 h3 Ys;obtain⟨dE,h0,k0⟩:=h0;obtain⟨S,h2,d⟩:=h2;obtain⟨U,h3,L⟩:=h3;obtain⟨q,Ys,j⟩:=Ys;have W:dE.map (fun o=> {o with pre:=[]})=_:=k0;have Z:S.map (fun o=> {o with pre:=[]})=_:=d;have k3':U.map (fun o=> {o with pre:=[]})=_:=L;obtain⟨a0,xs,rfl,s,Je,rfl⟩: ∃a0 xs,aL=[a0]/\(a0= .lit sz xs\/a0= .nils/\xs=[])/\xs.length<=lim/\res=⟨.own sz xs,[]⟩:=by
   unfold dX at h;split at h
   .injection h with h;exact⟨_,[],rfl,.inr ⟨rfl,rfl⟩,ajl,h.symm⟩
   .rename_i sz' xs;split at h
    .rename_i he;injection h with h;obtain⟨rfl,he⟩:=he;exact⟨_,xs,rfl,.inl rfl,he,h.symm⟩
    simp at h
   simp at h
 have oy:V.al [a0]=true:=by rcases s with rfl| ⟨rfl,rfl⟩ <;>rfl
 intro B K w φ0 vals Ez hv ho;have hO: (enter [a0]).O=fun _=>bJ:=xz oy;have u: (enter [a0]).T 0=a0:=by rw[eF oy];rfl
 have hcf: (callFunc F vals.toArray).run X.P w= .ok (.enter F vals.toArray) w:=by simp[callFunc,Sem.run_bind,program,Sem.run,nr,ij];simpa using iV
 rw[hcf];simp only[vl];refine(callsIn_wide (n:=0)).1 (callsIn_of_wp_marks (F:=Fr none) nr ij trivial ?_ rfl);have bM:vals.toArray.size<=fn.ntmps:=by simp[Ez];omega
 have lA:kB ⟨X,B,K⟩ ⟨w,φ0,(enter [a0]).O⟩ ⟨fn.ntmps,w.heap.size,none⟩ (enter [a0]) {tmps:=vals.toArray++Array.replicate (fn.ntmps - vals.toArray.size) undef,defers:=[]} w:=by
   refine⟨Marks.nil (ajw _) ajl,by simp at bM ⊢;omega,φ0,⟨fun t=> ?_,ho⟩,Le.refl _⟩;by_cases ht:t<vals.length
   .have e1: (vals.toArray++Array.replicate (fn.ntmps - vals.toArray.size) undef).getD t undef=vals[t]:=by simp[akM,ht]
    rw[e1];exact hv t _ (aju ht)
   have e1: (vals.toArray++Array.replicate (fn.ntmps - vals.toArray.size) undef).getD t undef=undef:=by simp[akM,ht,alh];split<;>rfl
   have e2: (enter [a0]).T t=ee:=by have: [a0][t]? =none:=akm ajk;simp[enter,this]
   rw[e1,e2];exact tu
 have H:=Nh (Y:=⟨X,B,K⟩) tP;refine wpIn_seq (wpIn_mono (wpIn_region (Q:=fun ex a w'=>ex= .normal/\kB ⟨X,B,K⟩ ⟨w,φ0,(enter [a0]).O⟩ ⟨fn.ntmps,w.heap.size,none⟩ ((enter [a0]).put (some 2) .nils) a w') ?_) ?_)
 . rw[akP]
   refine gD H (h:=({n:=fn.ntmps}:Hints)) rfl h0 Gq.size 0 ajk lA (by rw[List.drop_zero,W];rfl) fun a' w' y=> ⟨rfl,y⟩
 rintro ex a1 w1 ⟨rfl,jT⟩;refine wpIn_seq (wpIn_seq (wpIn_region ?_));have aiz:List.range (#[o1,o2]:Array Oper).size=[0,1]:=rfl;rw[aiz,wpOpsIn_cons];have eT0: ((enter [a0]).put (some 2) .nils).T 0=a0:=u;have aeH:ew AE C00 q ((enter [a0]).put (some 2) .nils)=some (((enter [a0]).put (some 2) .nils).put (some 3) a0):=by
   have hs:ew AE C00 (strip q) ((enter [a0]).put (some 2) .nils)=some (((enter [a0]).put (some 2) .nils).put (some 3) a0):=by rw[j];show some (((enter [a0]).put (some 2) .nils).put (some 3) (((enter [a0]).put (some 2) .nils).T 0))=_;rw[eT0]
   exact hs
 refine nA H (h:=({n:=fn.ntmps}:Hints)) (o:=o1) rfl Ys rfl jT aeH fun l m qj=> ?_;generalize hσ2: ((enter [a0]).put (some 2) .nils).put (some 3) a0=σ2 at qj;have e23:σ2.T 3=a0:=by rw[<-hσ2];rfl
 have z:σ2.T 0=a0:=by rw[<-hσ2];exact u
 have A:σ2.O=fun _=>bJ:=by rw[<-hσ2];exact hO
 rw[wpOpsIn_cons];obtain⟨Up,Jz,φ2,qU,Wk⟩:=qj;have F9:=qU.tmps 3;rw[e23] at F9;obtain⟨ad,n,cap,Dx⟩: ∃ad n cap,l.tmps.getD 3 undef= .slice ad n cap:=by
   rcases s with rfl| ⟨rfl,_⟩
   .simp only[aj] at F9;obtain⟨_,_,a,c,_,h,_⟩:=F9;exact⟨_,_,_,h⟩
   simp only[aj] at F9;obtain⟨a,h⟩:=F9;exact⟨_,_,_,h⟩
 have xk:ad.isNone=true->xs=[]:=by
   intro hn;rcases s with rfl| ⟨rfl,h9⟩
   .simp only[aj] at F9;obtain⟨_,_,a,c,_,h,_,_,C⟩:=F9;rw[Dx] at h;injection h with h _ _;rcases C with C| ⟨b,o,C,_⟩
    .exact C
    rw[h,C] at hn;simp at hn
   exact h9
 have heq: (Op.equal t (.slice ad n cap) (.slice none 0 0)).run X.P m= .ok ad.isNone m:=run_equal_slice_nil m t e ad n cap R;have kl: (execOp l.eval o2).run X.P m= .ok (.value (.bool ad.isNone)) m:=by
   simp only[execOp,p];refine dQ ?_;have ev:l.eval (.tmp 3)= .slice ad n cap:=by simpa [Go.Act.eval] using Dx
   have iK:l.eval (.const (.slice none 0 0))= .slice none 0 0:=rfl;simp[eqGuard,ev,iK,Go.binOp,Sem.run_bind,heq]
 have sV: (#[o1,o2]:Array Oper)[1]? =some o2:=rfl;simp only[wpOpIn,sV];rw[if_pos (by simp[Region.wanted,Kx])];refine tp (by rw[p];simp) ?_;unfold Oper.wp;rw[kl,Oper.upon_value];simp only[wpOpsIn];have Er:kB ⟨X,B,K⟩ ⟨w,φ0,(enter [a0]).O⟩ ⟨fn.ntmps,w.heap.size,none⟩ (σ2.put (some 4) (.bool ad.isNone)) (l.put o2.dst (.bool ad.isNone)) m:=by
   rw[Pb];refine⟨by rw[put_defers];exact Up,by rw[nB];exact Jz,φ2,?_,?_⟩
   .exact qw qU (Le.refl _) qU.bp (by simp[aj]) (by simp;rw[Jz];simp;omega) σ2.O
   exact Wk
 generalize l.put o2.dst (.bool ad.isNone)=a3 at Er ⊢;have Xw:a3.eval (.tmp 4)= .bool ad.isNone:=CH (c':= .tmp 4) Er rfl rfl;have Mf:V.al xs=true/\xs.all (bj · sz)=true:=by
   rcases s with rfl| ⟨rfl,h9⟩
   .simp only[aj] at F9;obtain⟨j,d,a,c,vs,_,_,L,E⟩:=F9;refine⟨j,?_⟩;rcases E with rfl| ⟨b,o,_,_,_,k5⟩
    .rfl
    rw[ajx] at d ⊢;intro x hx;obtain⟨i,hi⟩:=aj0.1 hx;obtain⟨v,hv1,M0⟩:=ag.get L hi;have:=(k5 i v hv1).1;rw[M0.gB (d x hx)] at this;simp[bj,this,d x hx]
   subst h9;exact⟨rfl,rfl⟩
 have G: ∀ (a':Go.Act) (w':World) (O':Nat->Obj),Marks ⟨fn.ntmps,w.heap.size,none⟩ w' a'.defers->(∃φ',Le ⟨w,φ0,(enter [a0]).O⟩ ⟨w',φ',O'⟩/\bq ⟨X,B,K⟩ ⟨w',φ',O'⟩/\ ∃r g,1<=r/\aj ⟨X,B,K⟩ ⟨w',φ',O'⟩ (.sl r g 0 xs.length) (a'.tmps.getD 2 undef)/\O' r=⟨g,sz,true,false,some xs⟩)->
    bodyPostM (Fr none) 0 X.P fn (fun| .returned val,w'=> ∃φ' T' O' v0 f,Le ⟨w,φ0,(enter [a0]).O⟩ ⟨w',φ',O'⟩/\bq ⟨X,B,K⟩ ⟨w',φ',O'⟩/\aj ⟨X,B,K⟩ ⟨w',φ',O'⟩ v0 val/\dT [a0].length ⟨T',O'⟩ v0 (fu.mk (.own sz xs) []).val f/\distinct f=true/\cV O' 0 [a0]=some (fu.mk (.own sz xs) []).outs| _,_=>False) .ret a' w':=by
   rintro a' w' O' hd ⟨φ',j,d,r,g,L,E,k5⟩;refine r6 (fun w'=> (Le ⟨w,φ0,(enter [a0]).O⟩ ⟨w',φ',O'⟩/\bq ⟨X,B,K⟩ ⟨w',φ',O'⟩)/\aj ⟨X,B,K⟩ ⟨w',φ',O'⟩ (.sl r g 0 xs.length) (a'.tmps.getD 2 undef)) (fun w1 D h1 h2 ⟨⟨hle,Ha⟩,hv⟩=> ⟨⟨Gs hle h1,yD Ha h2⟩,aj.cE (jv (μ:=⟨w1,φ',O'⟩) h2 rfl rfl) hv⟩) ?_ hd ⟨⟨j,d⟩,E⟩;rintro w' ⟨⟨j,d⟩,E⟩;refine⟨a'.tmps.getD 2 undef,by simp[results,jK],φ',fun _=>ee,O',_,[r],j,d,E,.one ?_,rfl,kY oy⟩;have zP:aN xs 0 xs.length=xs:=AN rfl;have hnr: ¬r< [a0].length:=by simp;omega
   simp only[ej,V.az,cQ,k5,zP,Mf.1,hnr];simp
 cases hb:ad.isNone with
 | true=>
   rw[hb] at Xw;obtain rfl:=xk hb;refine wpIn_cond_true Xw (wpIn_seq (wpIn_region ?_));rw[akP];refine gD H (h:=({n:=fn.ntmps}:Hints)) rfl h2 Uy.size 0 ajk Er (σ':=(σ2.put (some 4) (.bool ad.isNone)).put (some 2) .nils) (by rw[List.drop_zero,Z];rfl) fun a' w' y=> ?_;refine wpIn_ret ?_;obtain⟨nj,_,φ,I,M⟩:=y;have eO: ((σ2.put (some 4) (.bool ad.isNone)).put (some 2) .nils).O=fun _=>bJ:=A;have M0:=I.tmps 2;have e2: ((σ2.put (some 4) (.bool ad.isNone)).put (some 2) .nils).T 2= .nils:=rfl;rw[e2] at M0;have fI:=I.bp;rw[eO] at M fI;simp only[aj] at M0;obtain⟨aa,haa⟩:=M0;refine G a' w' (dh (fun _=>bJ) 1 ⟨1,sz,true,false,some []⟩) nj ⟨dh φ 1 ⟨0,0,0⟩,M.trans ⟨ajw _,fun b hb hn=> ⟨rfl,?_⟩,fun r=> ?_,fun r hr=> ?_,rfl,rfl,rfl,fun _ _=>rfl⟩,⟨fun r es bC=> ?_,fun r r' _ h1 h2 h3 h4=> ?_,fun r h1 h2=> ?_,fI.blt⟩,1,1,ajw _,?_,rfl⟩
   .rintro⟨r,h1,h2,h3,h4⟩;by_cases e:r=1
    .subst e;simp[dh] at h3
    simp[dh,e,bJ] at h1
   .simp only[bJ];omega
   .by_cases e:r=1
    .subst e;simp[dh,bJ] at hr
    simp[dh,e]
   .by_cases e:r=1
    .subst e;simp only[dh,if_true,ajq] at bC ⊢;subst bC;left
     unfold oA;simp only[dh,if_true];exact⟨CW,ajl,rfl,ajl⟩
    simp[dh,e,bJ] at bC
   .by_cases e:r=1
    .subst e;simp[dh] at h3
    simp[dh,e,bJ] at h1
   .by_cases e:r=1
    .subst e;simp[dh] at h2
    simp[dh,e,bJ] at h1
   simp only[aj];exact⟨aa,0,haa,ajl,by simp[dh],fun _=> ⟨by simpa [dh] using CW,by simp[dh],ajl⟩⟩
 | false=>
   rw[hb] at Xw;refine wpIn_cond_false Xw (wpIn_skip ?_);refine wpIn_seq (wpIn_region ?_);have hw3: ∃σ4 g,js AE C00 [⟨some 5,.buildSlice 96 sz zero 0 [],none,[]⟩,⟨some 6,.move (.tmp 0),none,[]⟩,⟨some 7,.append 128 sz lim (.tmp 5) (.tmp 6),none,[]⟩,⟨some 2,.move (.tmp 7),none,[]⟩] (σ2.put (some 4) (.bool ad.isNone))=some σ4/\σ4.T 2= .sl 96 g 0 xs.length/\σ4.O 96=⟨g,sz,true,false,some xs⟩:=by
    have J:σ2.O 96=bJ:=by rw[A]
    have Nv: ∀ (k:List V->Act),content sz a0 k=k xs:=by intro k;rcases s with rfl| ⟨rfl,rfl⟩ <;>simp[content]
    have zU:xs≠[]-> ¬xs.length<=0:=fun h h2=>h (List.eq_nil_of_length_eq_zero ajk);by_cases hx:xs=[]
    .simp[js,ew,cX,aQ,ev,kP,eD,Act.run,St.put,dh,z,J,Nv,vD,CW,hx,bJ,oM,V.al,overwrite]
    have:=zU hx;have nO: (∀x ∈ xs,bj x sz=true)=True:=eq_true (ajx.1 Mf.2);simp[js,ew,cX,aQ,ev,kP,eD,Act.run,St.put,dh,z,J,Nv,vD,CW,hx,bJ,oM,Mf.1,nO,Je,aN,this]
   obtain⟨σ4,g,aeK,P8,Kx⟩:=hw3;rw[akP];refine gD H (h:=({n:=fn.ntmps}:Hints)) rfl h3 Uz.size 0 ajk Er (by rw[List.drop_zero,k3'];exact aeK) fun a' w' y=> ?_;refine wpIn_ret ?_;obtain⟨nj,_,φ,I,M⟩:=y;have M0:=I.tmps 2;rw[P8] at M0;exact G a' w' σ4.O nj ⟨φ,M,I.bp,96,g,ajk,M0,Kx⟩
end
end Go.AM
namespace Go.AM
open Go Go.RowKit Go.ChangeShapes Go.WideShapes
theorem PO {H:Type} {enc:TypeId×Value->H} {P:Program} {f:Func} {s:ChangeSpec} {apart fresh handsOn d:Bool} {W W':World} {args:Array Value} {v:Value} {g gs:List (DataW H)} {before pa pv:List MemPlace}
  (h:DataW.Whole enc P f.params.toList s.vars apart W args.toList g gs before)
  (k: ∀ (b:Nat) (e:Nat->Bool) (hd:Bool),DataW.TrodAll enc P W' b e hd f.resultTypes.toList (v.resultList f.resultTypes.size) (s.fn H (g++gs)).results [])
  (l: ∀e:Nat->Bool,(∀p ∈ before,e p.block=true)->DataW.TrodAll enc P W' 0 e true f.params.toList args.toList (s.fn H (g++gs)).args pa)
  (YF: ∀e:Nat->Bool,(∀p ∈ before,e p.block=true)->DataW.TrodVars enc P W' e s.vars (s.fn H (g++gs)).vars pv)
  (i:before=pa++pv) (m:W.keptBut W' (· ∈ before)) (iC: ∀a,a.block<W.heap.size->W'.frozen? a=W.frozen? a)
  (X7: ∀ (j:Nat) (t:TypeId) (r:Value),f.resultTypes[j]? =some t->(v.resultList f.resultTypes.size)[j]? =some r->Value.okWide P W' .any 0 t r):
  s.post enc P f apart fresh handsOn d W args v W':=by
 have c: ∀p ∈ before,(fun b=>decide (b<W.heap.size)) p.block=true:=fun p hp=>by simpa using h.lt p hp
 have n:=h.lt;refine⟨g,gs,before,[],pa,pv,h,k _ _ _,l _ c,YF _ c,World.keptBut_mono (fun p hp=> ⟨hp,?_⟩) m,fun _=> ?_⟩
 .rw[i,ajD] at hp;exact Or.inr hp
 obtain⟨_,_,_,_,_,o,hn⟩:=h;refine⟨X7,_,_,([]++pa)++pv,⟨[]++pa,pv,trodAll_append (l _ (fun _ _=>rfl)) (k _ _ _),YF _ (fun _ _=>rfl),rfl,?_,?_⟩,?_⟩
 .intro b off hp;have hb:MemPlace.cell b off ∈ before:=by rw[i];simpa using hp
  rw[iC _ (n _ hb)];exact o b off hb
 .intro ha;have:=hn ha;rw[i] at this;simpa using this
 intro p hp _;rw[i];simpa using hp
end Go.AM
namespace Go.AM
open Go Go.RowKit
section
variable (P:Program)
def Aa (e:TypeId) (ws:List V):V:=match P.underlying e with
 | some (.struct _) | some (.array ..)=> .agg ws
 | _=>ws.headD ee
def TVF (c:TypeId->List V->Prop):List Field->List V->Prop
 | [],vs=>vs=[]
 | f::fs,vs=> ∃a b,vs=a++b/\a.length=P.cellsOf f.type/\c f.type a/\TVF c fs b
def TVA (c:List V->Prop) (s:Nat):Nat->List V->Prop
 | 0,vs=>vs=[]
 | k+1,vs=> ∃a b,vs=a++b/\a.length=s/\c a/\TVA c s k b
def TV:Nat->TypeId->List V->Prop
 | 0,_,_=>False
 | n+1,t,vs=>match P.underlying t with
   | some .bool=> ∃b,vs=[.bool b]
   | some (.int k)=> ∃x,vs=[.int k x]/\(Lit.int k x).wf=true
   | some .string=> ∃s,vs=[.str s]/\s.length<=maxLen
   | some (.slice e)=>vs=[.nils]\/ ∃xs,vs=[.lit (P.cellsOf e) xs]/\xs.length<=maxLen/\ ∀x ∈ xs,∃ws,TV n e ws/\x=Aa P e ws
   | some (.struct fs)=>TVF P (TV n) fs.toList vs
   | some (.array k e)=>TVA (TV n e) (P.cellsOf e) k vs
   | _=>False
def sI:List Field->Nat->Option Nat
 | [],off=>some off
 | f::fs,off=>if f.offset=off then sI fs (off+P.cellsOf f.type) else none
def GP (S:List TypeId) (t:TypeId):Bool:=match P.underlying t with
 | some .bool| some (.int _) | some .string=>P.cellsOf t==1
 | some (.slice e)=>P.cellsOf t==1 &&decide (0 <P.cellsOf e) &&S.contains e
 | some (.struct fs)=> (sI P fs.toList 0==some (P.cellsOf t)) &&fs.toList.all fun f=>S.contains f.type
 | some (.array k e)=>S.contains e &&P.cellsOf t==k*P.cellsOf e
 | _=>false
end
section
variable {X:TrEnv} {H:Type} {enc:TypeId×Value->H} {w:World} {S:List TypeId} {base:Nat} {spare:Nat->Bool} {held:Bool}
abbrev still (w:World) (φ:Nat->Row):Mu:=⟨w,φ,fun _=>bJ⟩
abbrev free (X:TrEnv):Ctx:=⟨X,fun _=>False,(0,0)⟩
def Good (X:TrEnv) (w:World) (n:Nat) (t:TypeId) (vs:List V) (cs:List Value):Prop:=
 TV X.P n t vs/\vs.all V.aZ=true/\V.al vs=true/\ ∀φ,ag (free X) (still w φ) vs cs
theorem qH: ∀ {a b:List V},V.al (a++b)=(V.al a &&V.al b)
 | [],b=>by simp[V.al]
 | x::a,b=>by simp[V.al,qH (a:=a),Bool.and_assoc]
theorem zH {n:Nat}: ∀ {fs:List Field} {cs:List Value} {off c:Nat},sI X.P fs off=some c->cs.length=c->
   (∀f ∈ fs,∃vs,Good X w n f.type vs ((cs.drop f.offset).take (X.P.cellsOf f.type)))->
   ∃vs,TVF X.P (TV X.P n) fs vs/\vs.all V.aZ=true/\V.al vs=true/\ ∀φ,ag (free X) (still w φ) vs (cs.drop off)
 | [],cs,off,c,hc,hl,_=>by
   simp only[sI,ajq] at hc;subst hc;refine⟨[],rfl,rfl,rfl,fun φ=> ?_⟩;rw[ajS ajk];simp[ag]
 | f::fs,cs,off,c,hc,hl,hf=>by
   simp only[sI] at hc;split at hc
   .rename_i m;subst m;obtain⟨a,Ow,VY,i,d⟩:=hf f ajl;obtain⟨b,Ap,l,JP,j⟩:=zH hc hl (fun g hg=>hf g (by simp[hg]));have p:f.offset+X.P.cellsOf f.type<=c:=by
     clear Ow VY i d Ap l JP j hf;have: ∀ (fs:List Field) (o tt:Nat),sI X.P fs o=some tt->o<=tt:=by
      intro fs;induction fs with
      | nil=>intro o tt h;simp[sI] at h;omega
      | cons g r q=>
        intro o tt h;simp only[sI] at h;split at h
        .have:=q _ _ h;omega
        simp at h
     exact this _ _ _ hc
    have k:a.length=X.P.cellsOf f.type:=by have:=(d (fun _=> ⟨0,0,0⟩)).length;rw[this];simp;omega
    refine⟨a++b,⟨a,b,rfl,k,Ow,Ap⟩,by simp[VY,l],by rw[qH,i,JP];rfl,fun φ=> ?_⟩;have e:cs.drop f.offset=(cs.drop f.offset).take (X.P.cellsOf f.type)++cs.drop (f.offset+X.P.cellsOf f.type):=by rw[<-akS,List.take_append_drop]
    rw[e];exact ag.append (d φ) (j φ)
   simp at hc
theorem CK {n:Nat} {e:TypeId}: ∀ (k:Nat) {cs:List Value} (j:Nat),cs.length=(j+k)*X.P.cellsOf e->
   (∀i,i<j+k-> ∃vs,Good X w n e vs ((cs.drop (i*X.P.cellsOf e)).take (X.P.cellsOf e)))->
   ∃vs,TVA (TV X.P n e) (X.P.cellsOf e) k vs/\vs.all V.aZ=true/\V.al vs=true/\ ∀φ,ag (free X) (still w φ) vs (cs.drop (j*X.P.cellsOf e))
 | 0,cs,j,hl,_=>by
   refine⟨[],rfl,rfl,rfl,fun φ=> ?_⟩;rw[ajS (by rw[hl];simp)];simp[ag]
 | k+1,cs,j,hl,hf=>by
   obtain⟨a,Ow,VY,d,c⟩:=hf j ajk;have h:j+1+k=j+(k+1):=ajk;obtain⟨b,Ap,l,JP,f⟩:=CK k (cs:=cs) (j+1) (by rw[h];exact hl) (fun i hi=>hf i ajk);have g:a.length=X.P.cellsOf e:=by have:=(c (fun _=> ⟨0,0,0⟩)).length;rw[this];simp;rw[hl,<-Nat.sub_mul];have:1<=j+(k+1) - j:=ajk;exact Nat.min_eq_left (Nat.le_mul_of_pos_left _ this)
   refine⟨a++b,⟨a,b,rfl,g,Ow,Ap⟩,by simp[VY,l],by rw[qH,d,JP];rfl,fun φ=> ?_⟩;have e:cs.drop (j*X.P.cellsOf e)=(cs.drop (j*X.P.cellsOf e)).take (X.P.cellsOf e)++cs.drop ((j+1)*X.P.cellsOf e):=by rw[aj4,Nat.one_mul,<-akS,List.take_append_drop]
   rw[e];exact ag.append (c φ) (f φ)
theorem Nw {α:Type} {p:Nat->α->Prop}: ∀ (n:Nat),(∀i,i<n-> ∃x,p i x)-> ∃xs:List α,xs.length=n/\ ∀i x,xs[i]? =some x->p i x
 | 0,_=> ⟨[],rfl,ajl⟩
 | n+1,h=>by
   obtain⟨xs,h1,h2⟩:=Nw n (fun i hi=>h i ajk);obtain⟨x,hx⟩:=h n ajk;refine⟨xs++[x],by simp[h1],fun i y hy=> ?_⟩;by_cases hi:i<xs.length
   .rw[aj2 hi] at hy;exact h2 i y hy
   rw[ajR ajk] at hy;have:i - xs.length=0:=by have:=(ajp.1 hy).1;simp at this;omega
   rw[this] at hy;simp at hy;subst hy;have:i=n:=ajk;subst this;exact hx
theorem trod_good (hS:S.all (GP X.P S)=true): ∀ (n:Nat) (t:TypeId) (cs:List Value) (x:DataW H×List MemPlace),t ∈ S->DataW.trod enc X.P w base spare held n t cs=some x-> ∃vs,Good X w n t vs cs:=by
 intro n;induction n with
 | zero=>intro t cs x _ h;simp[DataW.trod] at h
 | succ n F=>
   intro t cs x ht h;have hp:=ajx.1 hS t ht;unfold GP at hp;cases g:X.P.underlying t with
   | none=>rw[g] at hp;simp at hp
   | some G=>
     rw[g] at hp;cases G with
     | bool=>
       obtain⟨b,rfl,_⟩:=DataW.trod_bool g h;exact⟨[.bool b],by simp[TV,g],rfl,rfl,fun φ=>by simp[ag,aj]⟩
     | int k=>
       obtain⟨m,rfl,_,hw⟩:=DataW.trod_int g h;exact⟨[.int k m],by simp[TV,g,hw],rfl,rfl,fun φ=>by simp[ag,aj]⟩
     | string=>
       obtain⟨s,rfl,_,hm⟩:=DataW.trod_string g h;exact⟨[.str s.data.toList],by simp only[TV,g];exact⟨_,rfl,by simpa using hm⟩,rfl,rfl,fun φ=>by simp only[ag,aj];exact⟨⟨s,rfl,rfl⟩,trivial⟩⟩
     | slice e=>
       simp only[ajt,decide_eq_true_eq] at hp;obtain⟨⟨_,zU⟩,he⟩:=hp;have jR:e ∈ S:=by simpa using he
       rcases DataW.trod_slice g h with⟨rfl,_⟩ | ⟨a,len,cap,elems,rest,m,hn,rfl,_,hb,hl,hm,hlen,uU,_,_⟩
       .exact⟨[.nils],by simp[TV,g],rfl,rfl,fun φ=>by simp only[ag,aj];exact⟨⟨none,rfl⟩,trivial⟩⟩
       obtain rfl:n=m:=ajk;have I: ∀i,i<len-> ∃q:V×Value,(∃ws,TV X.P n e ws/\q.1=Aa X.P e ws)/\q.1.az=true/\q.1.dw=true/\(∀φ,aj (free X) (still w φ) q.1 q.2)/\
         q.2.cells.size=X.P.cellsOf e/\ ∀j c,q.2.cells[j]? =some c->w.cell? ((a.add (i*X.P.cellsOf e)).add j)=some c:=by
        intro i hi;have h1:=uU i hi;rw[aju ajk] at h1;rw[Option.bind_eq_some_iff] at h1;obtain⟨B,hc,lE⟩:=h1;obtain⟨_,iM,fL⟩:=World.cells?_some hc;obtain⟨ws,M,N,g3,g4⟩:=F e B _ jR lE;have ql:ws.length=B.length:=(g4 (fun _=> ⟨0,0,0⟩)).length;have GQ: ∀ (v:Value),v.cells.toList=B->v.cells.size=X.P.cellsOf e/\ ∀j c,v.cells[j]? =some c->w.cell? ((a.add (i*X.P.cellsOf e)).add j)=some c:=by
         intro v hv;have hs:v.cells.size=B.length:=by rw[<-hv];simp
         refine⟨by rw[hs,iM],fun j c hj=> ?_⟩;have qS:B[j]? =some c:=by rw[<-hv];simpa using hj
         rw[fL j (by have:=(ajp.1 qS).1;omega)];exact qS
        have Q: (∃fs,X.P.underlying e=some (.struct fs))\/(∃k e',X.P.underlying e=some (.array k e'))\/Aa X.P e ws=ws.headD ee/\ws.length=1:=by
         have EM:=ajx.1 hS e jR;unfold GP at EM;cases C:X.P.underlying e with
         | none=>rw[C] at EM;simp at EM
         | some d=>
           rw[C] at EM;cases d<;>simp at EM
           case struct fs=>exact .inl ⟨fs,rfl⟩
           case array k e'=>exact .inr (.inl ⟨k,e',rfl⟩)
           all_goals exact .inr (.inr ⟨by simp[Aa,C],by simp_all⟩)
        have p:Aa X.P e ws= .agg ws-> ∃q:V×Value,(∃ws,TV X.P n e ws/\q.1=Aa X.P e ws)/\q.1.az=true/\q.1.dw=true/\(∀φ,aj (free X) (still w φ) q.1 q.2)/\
           q.2.cells.size=X.P.cellsOf e/\ ∀j c,q.2.cells[j]? =some c->w.cell? ((a.add (i*X.P.cellsOf e)).add j)=some c:=by
         intro z;refine⟨(Aa X.P e ws,.agg B.toArray),⟨ws,M,rfl⟩,?_,?_,fun φ=> ?_,GQ _ (by simp[Value.cells])⟩
         .simp only[z,V.az,g3]
         .simp[z,V.dw,V.isAgg]
         simp only[z,aj];exact⟨N,_,rfl,by simpa using g4 φ⟩
        rcases Q with⟨fs,hs⟩ | ⟨k,e',hs⟩ | ⟨z,h1⟩
        .exact p (by simp[Aa,hs])
        .exact p (by simp[Aa,hs])
        match ws,h1,B,ql,M,N,g3,g4,GQ with
        | [x],_,[c],_,M,N,g3,g4,GQ=>
          have J: ∀φ,aj (free X) (still w φ) x c:=fun φ=>by have:=g4 φ;simp only[ag] at this;exact this.1
          have K:x.aZ=true:=by simpa using N
          refine⟨(x,c),⟨[x],M,by simp[z]⟩,by simpa [V.al] using g3,by simp[V.dw,K],J,GQ c ?_⟩;rw[((J (fun _=> ⟨0,0,0⟩)).qz K).2]
       obtain⟨A,R,D⟩:=Nw len I;refine⟨[.lit (X.P.cellsOf e) (A.map (·.1))],?_,rfl,rfl,fun φ=> ?_⟩
       .simp only[TV,g];refine .inr ⟨_,rfl,by simp[R];omega,fun x hx=> ?_⟩;obtain⟨q,l,rfl⟩:=ajL.1 hx;obtain⟨i,hi⟩:=aj0.1 l;exact(D i q hi).1
       simp only[   ag,aj,and_true];refine⟨JA fun x hx=> ?_,?_,some a,cap,A.map (·.2),by simp[R],by simp[R];omega,?_,?_⟩
       .obtain⟨q,l,rfl⟩:=ajL.1 hx;obtain⟨i,hi⟩:=aj0.1 l;exact(D i q hi).2.1
       .rw[ajx];intro x hx;obtain⟨q,l,rfl⟩:=ajL.1 hx;obtain⟨i,hi⟩:=aj0.1 l;exact(D i q hi).2.2.1
       .refine ag.Ch ajl fun i y u hy g=> ?_;rw[ajF] at hy g;cases l:A[i]? with
        | none=>simp[l] at hy
        | some q=>
          simp[l] at hy g;subst hy g;exact(D i q l).2.2.2.1 φ
       cases A with
       | nil=>exact .inl rfl
       | cons E A=>
         right
         have eK: ∀ (i:Nat) (q:V×Value),(E::A)[i]? =some q-> ∀j c,q.2.cells[j]? =some c->w.cell? ((a.add (i*X.P.cellsOf e)).add j)=some c:=fun i q hi=> (D i q hi).2.2.2.2.2;have bM: ∀ (i:Nat) (q:V×Value),(E::A)[i]? =some q->q.2.cells.size=X.P.cellsOf e:=fun i q hi=> (D i q hi).2.2.2.2.1;have h0:=eK 0 E rfl 0 (E.2.cells[0]'(by rw[bM 0 E rfl];exact zU)) (ajP _);obtain⟨O,ao,L⟩:=a;have Ep:L=none/\O<w.heap.size:=by
          simp only[Nat.zero_mul,Addr.add,if_true,World.cell?] at h0;split at h0
          .      rename_i c T f hh
                 split at h0
                 .simp at h0
                 rename_i hn;exact⟨by cases L<;>simp_all,(ajs.1 hh).1⟩
          simp at h0
         obtain⟨rfl,bl⟩:=Ep;refine⟨O,ao,rfl,?_,bl,fun i v hv=> ?_⟩
         .rintro(⟨r,h1,_⟩ | h)
          .simp[bJ] at h1
          exact h
         rw[     ajF] at hv;cases l: (E::A)[i]? with
         | none=>simp[l] at hv
         |      some q=>
                simp[l] at hv;subst hv;refine⟨bM i q l,fun j c hc=> ?_⟩;have:=eK i q l j c hc;have yt: ∀o m,Addr.add ⟨O,o,none⟩ m=⟨O,o+m,none⟩:=by
                 intro o m;simp only[Addr.add];split
                 .rename_i h0;subst h0;rfl
                 rfl
                rw[yt,yt] at this;exact this
     | struct fs=>
       simp only[ajt,beq_iff_eq] at hp;obtain⟨Nv,nO⟩:=hp;obtain⟨xs,m,hm,_,hlen,U3,hf⟩:=DataW.trod_struct g h;obtain rfl:n=m:=ajk;have key: ∀f ∈ fs.toList,∃vs,Good X w n f.type vs ((cs.drop f.offset).take (X.P.cellsOf f.type)):=by
        intro f hfm;obtain⟨i,hi⟩:=aj0.1 hfm;have pG:fs[i]? =some f:=by simpa using hi
        have h1:=hf i f pG;have GZ:i<xs.length:=by rw[U3];exact(ajs.1 pG).1
        rw[aju GZ] at h1;exact F f.type _ _ (by have:=ajx.1 nO f hfm;simpa using this) h1
       obtain⟨vs,U,W,Y,Z⟩:=zH Nv hlen key;exact⟨vs,by simp only[TV,g];exact U,W,Y,fun φ=>by simpa using Z φ⟩
     | array k e=>
       simp only[ajt,beq_iff_eq] at hp;obtain⟨he,bM⟩:=hp;obtain⟨xs,m,hm,_,hlen,U3,hf⟩:=DataW.trod_array g h;obtain rfl:n=m:=ajk;have key: ∀i,i< 0+k-> ∃vs,Good X w n e vs ((cs.drop (i*X.P.cellsOf e)).take (X.P.cellsOf e)):=by intro i hi;have h1:=hf i ajk;rw[aju ajk] at h1;exact F e _ _ (by simpa using he) h1
       obtain⟨vs,U,W,Y,Z⟩:=CK k 0 (by rw[hlen,bM];simp) key;exact⟨vs,by simp only[TV,g];exact U,W,Y,fun φ=>by simpa using Z φ⟩
     | _=>simp at hp
where
 JA {cs:List V} (h: ∀x ∈ cs,V.az x=true):V.al cs=true:=by
  induction cs with
  | nil=>rfl
  | cons c cs F=>simp only[V.al,ajt];exact⟨h c ajl,F fun x hx=>h x (by simp[hx])⟩
end
end Go.AM
namespace Go.AM
open Go Go.RowKit
def L4 (X:TrEnv) (g:Nat) (af:aT):Prop:= ∃F fn h c,X.gA F=some g/\X.P.funcs[F]? =some fn/\(fn.name== "runtime.NumGoroutine")=false/\fn.body=some c/\Fm X h fn=some af/\af.nparams<=fn.ntmps
def lD (X:TrEnv):List (Nat×aT)->Prop
 | []=>True
 | p::ps=>L4 X p.1 p.2/\lD X ps
def Nx (X:TrEnv) (g:Nat) (fn:List V->Option fu):Prop:= ∃F,X.gA F=some g/\ ∀aL res,fn aL=some res->bL X F aL res
def sJ (X:TrEnv):List (Nat× (List V->Option fu))->Prop
 | []=>True
 | p::ps=>Nx X p.1 p.2/\sJ X ps
theorem lD.mem {X:TrEnv}: ∀ {tab:List (Nat×aT)},lD X tab-> ∀p ∈ tab,L4 X p.1 p.2
 | [],_,p,hp=>by simp at hp
 | q::a,h,p,hp=>by
   rcases ajy.1 hp with rfl| hp
   .exact h.1
   exact lD.mem h.2 p hp
theorem sJ.mem {X:TrEnv}: ∀ {tab:List (Nat× (List V->Option fu))},sJ X tab-> ∀p ∈ tab,Nx X p.1 p.2
 | [],_,p,hp=>by simp at hp
 | q::a,h,p,hp=>by
   rcases ajy.1 hp with rfl| hp
   .exact h.1
   exact sJ.mem h.2 p hp
def Ny (X:TrEnv) (g:Nat) (h:UY):Prop:= ∃F,X.gA F=some g/\ ∀C:bB,(∀f F aL res,X.gA F=some f->C f aL=some res->bL X F aL res)-> ∀aL res,h.h C aL=some res->bL X F aL res
def sK (X:TrEnv):List (Nat×UY)->Prop
 | []=>True
 | p::ps=>Ny X p.1 p.2/\sK X ps
theorem sK.mem {X:TrEnv}: ∀ {tab:List (Nat×UY)},sK X tab-> ∀p ∈ tab,Ny X p.1 p.2
 | [],_,p,hp=>by simp at hp
 | q::a,h,p,hp=>by
   rcases ajy.1 hp with rfl| hp
   .exact h.1
   exact sK.mem h.2 p hp
def rW (X:TrEnv) (g:Nat) (it:List V->Option (List (List V))):Prop:= ∃F,X.gA F=some g/\ ∀caps xs,it caps=some xs-> ∀ (B:Nat->Prop) (K:Nat×Nat) (μ:Mu) (lb:Array Value),ag ⟨X,B,K⟩ μ caps lb.toList->bq ⟨X,B,K⟩ μ->AG ⟨X,B,K⟩ μ F lb xs
def oJ (X:TrEnv):List (Nat× (List V->Option (List (List V))))->Prop
 | []=>True
 | p::ps=>rW X p.1 p.2/\oJ X ps
theorem oJ.mem {X:TrEnv}: ∀ {tab:List (Nat× (List V->Option (List (List V))))},oJ X tab-> ∀p ∈ tab,rW X p.1 p.2
 | [],_,p,hp=>by simp at hp
 | q::a,h,p,hp=>by
   rcases ajy.1 hp with rfl| hp
   .exact h.1
   exact oJ.mem h.2 p hp
def iT:List Nat->Bool
 | []=>true
 | x::xs=> !xs.contains x &&iT xs
theorem gS: ∀ {l:List Nat},iT l=true-> ∀ {i j x:Nat},l[i]? =some x->l[j]? =some x->i=j
 | [],_,i,j,x,h,_=>by simp at h
 | y::l,hd,i,j,x,hi,a=>by
   simp only[iT,ajt,ake] at hd;have b: ∀k:Nat,l[k]? =some y->False:=fun k c=>by
     have:l.contains y=true:=by simpa using List.mem_of_getElem? c
     rw[hd.1] at this;simp at this
   cases i with
   | zero=>
     cases j with
     | zero=>rfl
     | succ j=>simp at hi a;subst hi;exact(b j a).elim
   | succ i=>
     cases j with
     | zero=>simp at hi a;subst a;exact(b i hi).elim
     | succ j=>simp at hi a;rw[gS hd.2 hi a]
def YG (X:TrEnv) (g:Nat) (h:YL):Prop:= ∃F,X.gA F=some g/\yP X F h
def L5 (X:TrEnv):List (Nat×YL)->Prop
 | []=>True
 | p::ps=>YG X p.1 p.2/\L5 X ps
theorem L5.mem {X:TrEnv}: ∀ {tab:List (Nat×YL)},L5 X tab-> ∀p ∈ tab,YG X p.1 p.2
 | [],_,p,hp=>by simp at hp
 | q::a,h,p,hp=>by
   rcases ajy.1 hp with rfl| hp
   .exact h.1
   exact L5.mem h.2 p hp
theorem E2 {P:Program} {fl:List Nat} {tl:List (Nat×Nat)} (hf:iT fl=true) (ht:iT (tl.map (·.2))=true) (hm:P.follows .mixedOrders=true) {tab:List (Nat×aT)} {ext:List (Nat× (List V->Option fu))} {hyb:List (Nat×UY)} {iter:List (Nat× (List V->Option (List (List V))))} {em:List (Nat×YL)}:
  let X:TrEnv:=⟨P,fun F=>fl[F]?,fun t=> (tl.find? (·.1==t)).map (·.2)⟩
  lD X tab->sJ X ext->sK X hyb->oJ X iter->L5 X em->yQ X (mkEM tab ext hyb iter em):=by
 intro X h1 h2 h3 h4 h5;have sL: ∀F F' g,X.gA F=some g->X.gA F'=some g->F=F':=fun F F' g h m=>gS hf h m;refine⟨fun t1 t2 k h m=> ?_,hm,fun f af F h b=> ?_,fun f aL res F h b=> ?_,fun g F caps xs h b=> ?_,fun f F g h b=> ?_,fun f g F h b C s aL res hr=> ?_⟩
 .simp only[X,ajr] at h m;obtain⟨p,hp,rfl⟩:=h;obtain⟨q,o,n⟩:=m;have a:=ali hp;have r:=ali o;obtain⟨i,hi⟩:=aj0.1 (akq hp);obtain⟨j,l⟩:=aj0.1 (akq o);have:i=j:=gS ht (i:=i) (j:=j) (x:=p.2) (by simp[hi]) (by simp[l,n]);subst this;rw[hi] at l;injection l with l;subst l;simp at a r;exact a.symm.trans r
 .simp only[mkEM,aa2,ajr] at h;obtain⟨p,hp,rfl⟩:=h;have a:=ali hp;simp at a;subst a;obtain⟨F',fn,hh,c,d,e,u,v,w,y⟩:=lD.mem h1 p (akq hp);obtain rfl:=sL F F' _ b d;exact⟨fn,hh,c,e,u,v,w,y⟩
 .simp only[mkEM,XO] at h;split at h
  .rename_i p hp;have a:=ali hp;simp at a;subst a;obtain⟨F',d,e⟩:=sJ.mem h2 p (akq hp);obtain rfl:=sL F F' _ b d;exact e aL res h
  simp at h
 .simp only[mkEM,Qz] at h;split at h
  .rename_i p hp;have a:=ali hp;simp at a;subst a;obtain⟨F',d,e⟩:=oJ.mem h4 p (akq hp);obtain rfl:=sL F F' _ b d;exact e caps xs h
  simp at h
 .simp only[mkEM,QA,ajr] at h;obtain⟨p,hp,rfl⟩:=h;have a:=ali hp;simp at a;subst a;obtain⟨F',d,e⟩:=L5.mem h5 p (akq hp);obtain rfl:=sL F F' _ b d;exact e
 simp only[mkEM,Mi,ajr] at h;obtain⟨p,hp,rfl⟩:=h;have a:=ali hp;simp at a;subst a;obtain⟨F',d,e⟩:=sK.mem h3 p (akq hp);obtain rfl:=sL F F' _ b d;exact e C s aL res hr
theorem UA {P:Program} {fl:List Nat} {tl:List (Nat×Nat)} (hf:iT fl=true) (ht:iT (tl.map (·.2))=true) (hm:P.follows .mixedOrders=true) {tab:List (Nat×aT)} {ext:List (Nat× (List V->Option fu))} {hyb:List (Nat×UY)} {iter:List (Nat× (List V->Option (List (List V))))}:
  let X:TrEnv:=⟨P,fun F=>fl[F]?,fun t=> (tl.find? (·.1==t)).map (·.2)⟩
  lD X tab->sJ X ext->sK X hyb->oJ X iter->yQ X (mkE tab ext hyb iter):=
 fun h1 h2 h3 h4=>E2 hf ht hm h1 h2 h3 h4 (em:=[]) trivial
theorem JB {μ μ':Mu} (h:Le μ μ') (a: ∀b,¬μ.own b):Below μ.w.heap.size μ.w μ'.w:=
 ⟨h.os,h.tape,h.output,h.size,fun k c=> (h.cn k c (a k)).1⟩
theorem PQ {X:TrEnv} {E:Env} (m:yQ X E) {F g:Nat} (o:X.gA F=some g) {fn:Func} (p:X.P.funcs[F]? =some fn) (q: (fn.name== "runtime.NumGoroutine")=false) {s:Code} (v:fn.body=some s)
   {args:List V} {b:Bool} (x:Ev E g args ⟨.bool b,[]⟩) (hp:V.al args=true) {w:World} {vals:List Value} (hv: ∀φ,ag (free X) (still w φ) args vals):
   Calls X.P F vals.toArray w fun e w'=>e= .returned (.bool b)/\Below w.heap.size w w'/\ ∀a,a.block<w.heap.size->w'.frozen? a=w.frozen? a:=by
 obtain⟨n,hn⟩:=x;have hs:bL X F args ⟨.bool b,[]⟩:=CJ m n g F args _ o hn;have f: (enter args).O=fun _=>bJ:=xz hp;have y: ∀ (t:Nat) (a:V),args[t]? =some a->(enter args).T t=a:=fun t a ha=>by rw[eF hp];simp[List.getD,ha]
 have Cb:=hv (fun _=> ⟨0,0,0⟩);have i:=hs (fun _=>False) (0,0) w (fun _=> ⟨0,0,0⟩) vals Cb.length.symm (fun t v' AD=>by
   have hl:t<args.length:=by rw[Cb.length];exact(ajp.1 AD).1
   obtain⟨u,d,z⟩:=Cb.get (aju hl);rw[AD] at d;injection d with d;subst d;rw[y t _ (aju hl),f];exact z) (by
   rw[f];exact⟨fun r es h=>by simp[bJ] at h,fun r1 r2 _ h=>by simp[bJ] at h,fun r h=>by simp[bJ] at h,fun b h=>h.elim⟩)
 have j: (callFunc F vals.toArray).run X.P w= .ok (.enter F vals.toArray) w:=by simp[callFunc,Sem.run_bind,program,Sem.run,p,v];simpa using q
 rw[j] at i;simp only[vl] at i;refine Calls.mono i fun e w' he=> ?_;cases e with
 | panicked c=>exact he.elim
 | outgrown=>exact he.elim
 | returned val=>
   obtain⟨φ',T',O',v0,k,l,A,B,C,G,H⟩:=he;have D: ∀b,¬ (Mu.mk w (fun _=> ⟨0,0,0⟩) (enter args).O).own b:=fun b=>by rw[f];rintro⟨r,h,_⟩;simp[bJ] at h
   refine⟨?_,JB l D,l.frozen⟩;have:=(C.aeD A B).pure rfl;simp only[aj] at this;rw[this]
end Go.AM
namespace Go.AM
open Ieee
theorem vC {n k:Nat} (h:n< 2 ^ k) (h0:n≠0):n.log2<k:=(Nat.log2_lt h0).2 h
theorem L6 {mag:Nat}:Toward.even.cut false (mag<<< (52 - mag.log2)) (mag.log2 - 52)<=9007199254740992:=by
 have h1:mag< 2 ^ (mag.log2+1):=Nat.lt_log2_self;have key:mag<<< (52 - mag.log2) / (1 <<< min (mag.log2 - 52) ((mag<<< (52 - mag.log2)).log2+2)) < 9007199254740992:=by
  by_cases he:mag.log2<=52
  .have a:mag.log2 - 52=0:=ajk;rw[a,Nat.zero_min];rw[alq,alq,Nat.pow_zero,Nat.mul_one,Nat.div_one]
   calc mag*2 ^ (52 - mag.log2) < 2 ^ (mag.log2+1)*2 ^ (52 - mag.log2):=Nat.mul_lt_mul_of_pos_right h1 (Nat.two_pow_pos _)
    _=2 ^ 53:=by rw[<-Nat.pow_add];congr 1;omega
    _=9007199254740992:=ajm
  have c:52 - mag.log2=0:=ajk;rw[c];simp only[Nat.shiftLeft_zero];rw[Nat.min_eq_left ajk];simp only[alq,Nat.one_mul];refine Nat.div_lt_of_lt_mul ?_
  calc mag< 2 ^ (mag.log2+1):=h1
   _=2 ^ (mag.log2 - 52)*2 ^ 53:=by rw[<-Nat.pow_add];congr 1;omega
   _=2 ^ (mag.log2 - 52)*9007199254740992:=by congr 1
 unfold Toward.cut;simp only;generalize mag<<< (52 - mag.log2) / (1 <<< min (mag.log2 - 52) ((mag<<< (52 - mag.log2)).log2+2))=low at key ⊢;have hb: ∀b:Bool,low+b.toNat<=9007199254740992:=fun b=>by have:=Bool.toNat_le b;omega
 exact hb _
theorem uI {mag:Nat} {place:Int} (h0:mag≠0) (h1: -1000<=place+mag.log2) (h2:place+mag.log2<=200):
  ∃w:Nat,double.nearest false mag place=w/\w<=4503599627370496*((place+mag.log2+1022).toNat+2):=by
 refine⟨_,rfl,?_⟩;unfold Format.nearest;rw[if_neg h0];have a:double.leastPlace= -1074:=by simp[Format.leastPlace,double]
 have b:double.fractionBits=52:=rfl;have c:double.binade=4503599627370496:=by simp[Format.binade,double]
 have d:max (place+(mag.log2:Int) - (double.fractionBits:Nat)) double.leastPlace=place+mag.log2 - 52:=by rw[a,b];omega
 rw[d];simp only[Format.word,a,c];have a1: (place - (place+(mag.log2:Int) - 52)).toNat=52 - mag.log2:=ajk;have e: (place+(mag.log2:Int) - 52 - place).toNat=mag.log2 - 52:=ajk;have f: (place+(mag.log2:Int) - 52 - -1074).toNat=(place+mag.log2+1022).toNat:=by congr 1;omega
 rw[a1,e,f];have g:=L6 (mag:=mag);simp only[ajA,if_false];refine ajQ (Nat.min_le_left _ _) ?_;rw[Nat.mul_add,ak2];exact Nat.add_le_add_left g _
theorem lp:double.leastPlace= -1074:=by simp[Format.leastPlace,double]
theorem bi:double.binade=4503599627370496:=by simp[Format.binade,double]
theorem sw:double.signWeight=9223372036854775808:=by simp[Format.signWeight,double]
theorem ir:double.infRung=9218868437227405312:=by simp[Format.infRung,Format.binade,double]
theorem CL {w T:Nat} (a:w<=4503599627370496*(T+2)) (e:T<=1290): ∃m p,double.read w= .number false m p/\m< 9007199254740992/\ -1074<=p/\p<= -1072+(T:Int):=by
 have d:w / 4503599627370496<=T+2:=Nat.div_le_of_le_mul a;have h:w<=4503599627370496*1292:=ajQ a (Nat.mul_le_mul_left _ ajk);have b:w< 9223372036854775808:=Nat.lt_of_le_of_lt h ajm;have c:w< 9218868437227405312:=Nat.lt_of_le_of_lt h ajm;have h1:w / 9223372036854775808=0:=Nat.div_eq_of_lt b;have h2:w % 9223372036854775808=w:=alB b;have UB: (w / 9223372036854775808 % 2==1)=false:=by rw[h1];rfl
 unfold Format.read;simp only[lp,bi,sw,ir,h2,UB];by_cases hb:w< 4503599627370496
 .simp only[hb,if_true];exact⟨w,-1074,rfl,Nat.lt_trans hb ajm,ajm,by clear h1 h2 UB hb h b c d a;omega⟩
 have hc:=c;simp only[hb,hc,if_true,if_false];refine⟨4503599627370496+w % 4503599627370496,-1074+((w / 4503599627370496 - 1:Nat):Int),rfl,?_,?_,?_⟩
 .have h9:=Nat.mod_lt w (show 0 < 4503599627370496 by decide);clear h1 h2 UB hc hb h b c a d;generalize w % 4503599627370496=r at h9 ⊢;omega
 .clear h1 h2 UB hc hb h b c a d;generalize w / 4503599627370496 - 1=q;omega
 clear h1 h2 UB hc hb h b c a;generalize w / 4503599627370496=q at d ⊢;omega
theorem sM (n:Nat): ∀ (todo root:Nat),root*root<=n->Datum.rootFrom n todo root*Datum.rootFrom n todo root<=n
 | 0,root,h=>h
 | todo+1,root,h=>by
   unfold Datum.rootFrom;by_cases a: (root+1 <<< todo)*(root+1 <<< todo)<=n
   .simp only[a,if_true];exact sM n todo _ a
   simp only[a,if_false];exact sM n todo _ h
theorem Ht {n:Int} (h0:0 <n) (h1:n<=9223372036854775807):
  ∃r m,FloatKind.f64.format.sqrt (FloatKind.f64.nearest n)=some r/\(FloatKind.f64.decode r).toInt .zero=some m/\0<=m/\m<=9223372036854775807:=by
 have g:n.natAbs≠0:=ajk;have u:n.natAbs.log2< 63:=vC (by have: (2:Nat) ^ 63=9223372036854775808:=ajm;omega) g;have v:FloatKind.f64.nearest n=double.nearest false n.natAbs 0:=by
  have:decide (n< 0)=false:=by simp;omega
  simp only[FloatKind.nearest,FloatKind.encode,FloatKind.format,Format.write,this]
 obtain⟨w,hw,b⟩:=uI (mag:=n.natAbs) (place:=0) g ajk ajk;obtain⟨m,p,hr,hm,x,hp⟩:=CL b (by clear b;omega);clear b;rw[v,hw];have y:p<=13:=by clear hm;omega
 have fin: ∀ (mag:Nat) (place:Int),mag≠0-> -1000<=place+mag.log2->place+mag.log2<=59->
   ∃r k,double.write (.number false mag place)=r/\(double.read r).toInt .zero=some k/\0<=k/\k<=9223372036854775807:=by
  intro mag place z j t;obtain⟨A,HA,c⟩:=uI (mag:=mag) (place:=place) z j ajk;obtain⟨i,f,Wh,B,C,D⟩:=CL c (by clear c;omega);clear c;have E:f<=9:=ajk;refine⟨A,_,HA,by rw[Wh];rfl,?_⟩;have F:Toward.zero.cut false (i<<< f.toNat) (-f).toNat<=i<<< f.toNat:=by unfold Toward.cut;simp only[Bool.toNat_false,akQ];exact Nat.div_le_self _ _
  have G:i<<< f.toNat<=i*512:=by
   rw[alq];refine Nat.mul_le_mul_left _ ?_
   calc 2 ^ f.toNat<=2 ^ 9:=Nat.pow_le_pow_right ajk ajk
     _=512:=ajm
  simp only[signed,ajA,if_false,Nat.shiftLeft_zero];omega
 show ∃r k,(((double.read w).root (double.fractionBits+2)).map double.write)=some r/\(double.read r).toInt .zero=some k/\0<=k/\k<=9223372036854775807;rw[hr];simp only[Datum.root];by_cases Mx:m=0
 .subst Mx;rw[if_pos rfl];exact⟨0,0,by simp[Format.write,Format.nearest,Format.word],ajm,ajm,ajm⟩
 rw[if_neg Mx];simp only[ajA,if_false];have H:double.fractionBits=52:=rfl;rw[H];have FE:m.log2< 53:=vC (by have: (2:Nat) ^ 53=9007199254740992:=ajm;omega) Mx;generalize I:2*(52+2) - m.log2+((p - (2*(52+2) - m.log2:Nat)) % 2).toNat=more;have J:56<=more/\more<=109:=ajk;generalize l:Datum.rootFrom (m<<< more) ((m<<< more).log2 / 2+1) 0=a;have o:a*a<=m<<< more:=by rw[<-l];exact sM _ _ _ ajl
 have hbound:a< 2 ^ 81:=by
  rw[alq] at o;have h2:m*2 ^ more< 2 ^ 162:=by
    calc m*2 ^ more< 2 ^ 53*2 ^ more:=Nat.mul_lt_mul_of_pos_right (by have: (2:Nat) ^ 53=9007199254740992:=ajm;omega) (Nat.two_pow_pos _)
     _=2 ^ (53+more):=by rw[<-Nat.pow_add]
     _<=2 ^ 162:=Nat.pow_le_pow_right ajk ajk
  rcases ak1 a (2 ^ 81) with h| h
  .exact h
  have:2 ^ 81*2 ^ 81<=a*a:=Nat.mul_le_mul h h;have e: (2:Nat) ^ 81*2 ^ 81=2 ^ 162:=by rw[<-Nat.pow_add]
  omega
 have K:m<<< more≠0:=by rw[alq];exact Nat.mul_ne_zero Mx (by have:=Nat.two_pow_pos more;omega)
 generalize d:2*a+(a*a !=m<<< more).toNat=XD;have YH:XD≠0:=by
  intro h;rw[h] at d;have q:a=0:=ajk;subst q;have: (0*0 !=m<<< more)=true:=by simp;exact fun h=>K h.symm
  rw[this] at d;simp at d
 have s:XD< 2 ^ 83:=by have hb: (a*a !=m<<< more).toNat<=1:=Bool.toNat_le _;have e: (2:Nat) ^ 83=4*2 ^ 81:=ajm;omega
 have JQ:XD.log2< 83:=vC s YH;obtain⟨r,k,j,t,g3,g4⟩:=fin XD ((p - more) / 2 - 1) YH ajk ajk;refine⟨r,k,?_,t,g3,g4⟩;simp only[ajE];exact congrArg some j
end Go.AM
