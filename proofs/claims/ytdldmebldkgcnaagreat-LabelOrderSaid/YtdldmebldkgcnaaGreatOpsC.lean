/- Texts of the proof. -/
import Derived.Test.YtdldmebldkgcnaaGreatOpsB
import Derived.Test.YtdldmebldkgcnaaGreatBase
import Derived.Laws.Externs
import Derived.Laws.Cover3
import GoSem.Extern.MathSqrt
import Derived.ProofKit
import Derived.ChangeSame
import Derived.ChangeArms
import Derived.OpenShut
import Derived.Deep.Slices
import Derived.Carry
set_option linter.unusedSimpArgs false
set_option linter.unusedVariables false
namespace Go.AM
open Go Go.RowKit
def ub (P:Program) (r:Result Next) (R:Value→World→Prop):Prop:=
 match r with
 | .ok (.value v) w'=>R v w'
 | .ok (.enter f args) w'=>Calls P f args w' fun| .returned v,MW=>R v MW| _,_=>False
 | _=>False
theorem ub.upon {P:Program} {r:Result Next} {R:Value→World→Prop} (h:ub P r R) {o:Oper} {a:Go.Act} {next:Go.Act→World→Prop} {Q:Go.Exit→Go.Act→World→Prop}
  (hn: ∀v w,R v w→next (a.put o.dst v) w):o.upon P a next Q r:=by
 unfold ub at h
 split at h
 ·exact hn _ _ h
 ·rw[Oper.upon_enter]
  refine Calls.mono h fun e w' he=> ?_
  cases e with
  | returned v=>exact hn _ _ he
  | panicked c=>exact he.elim
  | outgrown=>exact he.elim
 ·exact h.elim
def V.jx:V→Bool
 | .own .. =>true
 | c=>c.aT
theorem v8 {c:V} (h:c.aT=true):c.jx=true:=by cases c<;>simp_all[V.aT,V.jx]
inductive dz (n:Nat) (σ:St):V→V→List Nat→Prop
 | one {v0 v:V} {rs:List Nat} (h:dQ n σ v0=some (v,rs)):dz n σ v0 v rs
 | many {vs vs':List V} {rs:List Nat} (h:dv n σ vs=some (vs',rs)):dz n σ (.tuple vs) (.tuple vs') rs
def bJ (X:TrEnv) (F:FuncId) (args:List V) (res:eZ):Prop:=
 ∀ (B:Nat→Prop) (K:Nat×Nat) (w:World) (φ0:Nat→Row) (vals:List Value),vals.length=args.length→
  (∀t v,vals[t]? =some v→aj ⟨X,B,K⟩ ⟨w,φ0,(enter args).O⟩ ((enter args).T t) v)→bk ⟨X,B,K⟩ ⟨w,φ0,(enter args).O⟩→
  ub X.P ((callFunc F vals.toArray).run X.P w) fun val w'=> ∃φ' T' O' v0 refs,Le ⟨w,φ0,(enter args).O⟩ ⟨w',φ',O'⟩∧bk ⟨X,B,K⟩ ⟨w',φ',O'⟩∧
     aj ⟨X,B,K⟩ ⟨w',φ',O'⟩ v0 val∧dz args.length ⟨T',O'⟩ v0 res.val refs∧distinct refs=true∧cO O' 0 args=some res.outs
inductive WD (Y:Ctx) (μ:Mu) (n:Nat):V→List Nat→Value→Prop
 | pure {c:V} {val:Value} (hp:c.aw=true) (h:aj Y μ c val):WD Y μ n c [] val
 | sl {r g off len:Nat} {es:List V} {val:Value} (hr:r<n) (bq: (μ.O r).es=some es) (hg: (μ.O r).gen=g) (hl:off+len≤es.length) (h:aj Y μ (.sl r g off len) val):WD Y μ n (.sl r g off len) [r] val
 | own {r g off len:Nat} {es:List V} {val:Value} (hr:n≤r) (bq: (μ.O r).es=some es) (gz: (μ.O r).fz=false) (hg: (μ.O r).gen=g) (hl:off+len≤es.length) (hp:V.al (aG es off len)=true)
    (h:aj Y μ (.sl r g off len) val):WD Y μ n (.own (μ.O r).sz (aG es off len)) [r] val
inductive CV (Y:Ctx) (μ:Mu) (n:Nat):List V→List Nat→List Value→Prop
 | nil:CV Y μ n [] [] []
 | cons {c:V} {rs rs':List Nat} {val:Value} {cs:List V} {vals:List Value} (h:WD Y μ n c rs val) (hs:CV Y μ n cs rs' vals):CV Y μ n (c::cs) (rs++rs') (val::vals)
section
variable {Y:Ctx} {μ:Mu} {n:Nat}
theorem CV.length {cs:List V} {rs:List Nat} {vals:List Value} (h:CV Y μ n cs rs vals):cs.length=vals.length:=by
 induction h with
 | nil=>rfl
 | cons _ _ ih=>simp[ih]
theorem Ls (ho:bk Y μ) {r g off len:Nat} {es:List V} {val:Value} (bq: (μ.O r).es=some es) (gz: (μ.O r).fz=true) (hg: (μ.O r).gen=g) (hl:off+len≤es.length)
  (hp:V.al (aG es off len)=true) (h:aj Y μ (.sl r g off len) val):aj Y μ (.lit (μ.O r).sz (aG es off len)) val:=by
 simp only[aj] at h ⊢
 obtain⟨a,cap,rfl,hle,oO,bV⟩:=h
 obtain⟨a0,a1,a2⟩:=bV hg
 obtain⟨q1,q2,q3,q4⟩:=ho.row r es bq a0
 have o9: (aG es off len).length=len:=by simp[aG];omega
 have ll: (aG es off len).all V.dh=true:=by
  simp only[aiY] at q3 ⊢
  exact fun x hx=> (cr (q3 x (ajz (ajh hx)))).1
 by_cases Js:len=0
 ·exact⟨hp,ll,a,cap,[],by rw[o9],abV,by simp[aG,Js,ag],.inl (by simpa using o9.trans Js)⟩
 ·rcases q4 with q4| ⟨cc,TT,vs,p1,p2,p3,p4⟩
  ·omega
  ·refine⟨hp,ll,a,cap,(vs.drop off).take len,by rw[o9],abV,ag.take _ (ag.drop _ p3),.inr ⟨_,_,a2.resolve_left abV,?_,(aiV.1 p1).1,(p4.drop off).take len⟩⟩
   rintro(⟨r',k1,k2,k3,k4⟩ | hb)
   ·by_cases e:r'=r
    ·subst e;rw[gz] at k2;simp at k2
    ·exact ho.inj r' r e k1 (by simp[bq]) k3 abV k4
   ·exact ho.uz r (by simp[bq]) abV hb
theorem oI (ho:bk Y μ) {T:Nat→V} {c c':V} {rs:List Nat} {val:Value} (h:aj Y μ c val) (he:cG n ⟨T,μ.O⟩ c=some (c',rs)):WD Y μ n c' rs val:=by
 unfold cG at he
 split at he
 ·rename_i r g off len
  simp only at he
  split at he
  ·rename_i es bq
   split at he
   ·rename_i hc
    obtain⟨c1,c2,c3,c4⟩:=hc
    split at he
    ·rename_i hr
     simp only[aiT,aiX] at he
     obtain⟨rfl,rfl⟩:=he
     exact .sl hr bq c1 c2 h
    ·rename_i hr
     split at he
     ·rename_i gz
      simp only[aiT,aiX] at he
      obtain⟨rfl,rfl⟩:=he
      exact .pure rfl (Ls ho bq gz c1 c2 c4 h)
     ·rename_i gz
      simp only[aiT,aiX] at he
      obtain⟨rfl,rfl⟩:=he
      exact .own abV bq (by simpa using gz) c1 c2 c4 h
   ·simp at he
  ·simp at he
 ·split at he
  ·rename_i hp
   simp only[aiT,aiX] at he
   obtain⟨rfl,rfl⟩:=he
   exact .pure hp h
  ·simp at he
theorem jB (ho:bk Y μ) {T:Nat→V}: ∀ {cs cU:List V} {rs:List Nat} {vals:List Value},ag Y μ cs vals→cm n ⟨T,μ.O⟩ cs=some (cU,rs)→CV Y μ n cU rs vals
 | [],cU,rs,[],_,he=>by simp[cm] at he;obtain⟨rfl,rfl⟩:=he;exact .nil
 | [],_,_,_::_,h,_=>by simp[ag] at h
 | _::_,_,_,[],h,_=>by simp[ag] at h
 | c::cs,cU,rs,v::vs,h,he=>by
   simp only[ag] at h
   simp only[cm] at he
   split at he
   ·rename_i c1 r1 cs1 rs1 h1 h2
    simp only[aiT,aiX] at he
    obtain⟨rfl,rfl⟩:=he
    exact .cons (oI ho h.1 h1) (jB ho h.2 h2)
   ·simp at he
inductive Ic (Y:Ctx) (μ:Mu) (n:Nat):V→List Nat→Value→Prop
 | cell {c:V} {rs:List Nat} {val:Value} (h:WD Y μ n c rs val):Ic Y μ n c rs val
 | agg {cs:List V} {rs:List Nat} {vals:Array Value} (hc:cs.all V.jx=true) (h:CV Y μ n cs rs vals.toList):Ic Y μ n (.agg cs) rs (.agg vals)
inductive qK (Y:Ctx) (μ:Mu) (n:Nat):List V→List Nat→List Value→Prop
 | nil:qK Y μ n [] [] []
 | cons {c:V} {rs rs':List Nat} {val:Value} {cs:List V} {vals:List Value} (h:Ic Y μ n c rs val) (hs:qK Y μ n cs rs' vals):qK Y μ n (c::cs) (rs++rs') (val::vals)
theorem wc {T:Nat→V} {O:Nat→Obj} {c c':V} {rs:List Nat} (he:cG n ⟨T,O⟩ c=some (c',rs)) (hc:c.aT=true):V.jx c'=true:=by
 unfold cG at he
 split at he
 ·simp only at he
  split at he
  ·split at he
   ·split at he
    ·simp only[aiT,aiX] at he
     obtain⟨rfl,rfl⟩:=he;rfl
    ·split at he
     ·simp only[aiT,aiX] at he
      obtain⟨rfl,rfl⟩:=he;rfl
     ·simp only[aiT,aiX] at he
      obtain⟨rfl,rfl⟩:=he;rfl
   ·simp at he
  ·simp at he
 ·split at he
  ·simp only[aiT,aiX] at he
   obtain⟨rfl,rfl⟩:=he
   exact v8 hc
  ·simp at he
theorem mJ {T:Nat→V} {O:Nat→Obj}: ∀ {cs cU:List V} {rs:List Nat},cm n ⟨T,O⟩ cs=some (cU,rs)→cs.all V.aT=true→
   cU.all V.jx=true
 | [],cU,rs,he,_=>by simp[cm] at he;obtain⟨rfl,rfl⟩:=he;rfl
 | c::cs,cU,rs,he,hc=>by
   simp only[aja,Bool.and_eq_true] at hc
   simp only[cm] at he
   split at he
   ·rename_i c1 r1 cs1 rs1 h1 h2
    simp only[aiT,aiX] at he
    obtain⟨rfl,rfl⟩:=he
    have i1:=wc h1 hc.1
    have i2:=mJ h2 hc.2
    rw[aja,i2,ajy]
    exact i1
   ·simp at he
theorem CV.aN {cs:List V} {rs:List Nat} {vals:List Value} (h:CV Y μ n cs rs vals) (hp:V.al cs=true):ag Y μ cs vals∧rs=[]:=by
 induction h with
 | nil=>simp[ag]
 | cons h hs ih=>
   simp only[V.al,Bool.and_eq_true] at hp
   obtain⟨i1,i2⟩:=ih hp.2
   cases h with
   | pure FB hv=>simp only[ag];exact⟨⟨hv,i1⟩,by simpa using i2⟩
   | sl=>simp[V.aw] at hp
   | own=>simp[V.aw] at hp
theorem nQ (ho:bk Y μ) {T:Nat→V} {v v':V} {rs:List Nat} {val:Value} (h:aj Y μ v val) (he:dQ n ⟨T,μ.O⟩ v=some (v',rs)):Ic Y μ n v' rs val:=by
 unfold dQ at he
 split at he
 ·rename_i hp
  simp only[aiT,aiX] at he
  obtain⟨rfl,rfl⟩:=he
  exact .cell (.pure hp h)
 ·split at he
  ·simp only[aj] at h
   obtain⟨h1,vs,rfl,h2⟩:=h
   split at he
   ·rename_i cU rs' oN
    simp only[aiT,aiX] at he
    obtain⟨rfl,rfl⟩:=he
    exact .agg (mJ oN h1) (jB ho h2 oN)
   ·simp at he
  ·simp only[aj] at h
   obtain⟨F,cv,rfl,h1,h2⟩:=h
   split at he
   ·rename_i cU rs' oN
    split at he
    ·rename_i hp
     simp only[aiT,aiX] at he
     obtain⟨rfl,rfl⟩:=he
     obtain⟨k1,k2⟩:=(jB ho h2 oN).aN hp
     subst k2
     refine .cell (.pure (by simpa [V.aw] using hp) ?_)
     simp only[aj]
     exact⟨F,cv,rfl,h1,k1⟩
    ·simp at he
   ·simp at he
  ·exact .cell (oI ho h he)
theorem mA (ho:bk Y μ) {T:Nat→V}: ∀ {cs cU:List V} {rs:List Nat} {vals:List Value},ag Y μ cs vals→dv n ⟨T,μ.O⟩ cs=some (cU,rs)→qK Y μ n cU rs vals
 | [],cU,rs,[],_,he=>by simp[dv] at he;obtain⟨rfl,rfl⟩:=he;exact .nil
 | [],_,_,_::_,h,_=>by simp[ag] at h
 | _::_,_,_,[],h,_=>by simp[ag] at h
 | c::cs,cU,rs,v::vs,h,he=>by
   simp only[ag] at h
   simp only[dv] at he
   split at he
   ·rename_i c1 r1 cs1 rs1 h1 h2
    simp only[aiT,aiX] at he
    obtain⟨rfl,rfl⟩:=he
    exact .cons (nQ ho h.1 h1) (mA ho h.2 h2)
   ·simp at he
end
end Go.AM
namespace Go.AM
open Go Go.RowKit
def fk (φ:Nat→Row) (ws:List ed) (i:Nat):Row:=
 match ws with
 | []=> ⟨0,0,0⟩
 | w::ws=>if w.i=i then(match w.fresh with| none=>φ w.r| some _=> ⟨0,0,0⟩) else fk φ ws i
inductive yK (X:Ctx) (μ:Mu) (r0 i:Nat) (rs:List Nat) (ws:List ed):V→Value→Prop
 | plain {a:V} {v:Value} (hp:V.aw a=true) (hs:kP X μ rs a v):yK X μ r0 i rs ws a v
 | sl {r g off len:Nat} {es:List V} {v:Value} (hw: (⟨i,r,none⟩:ed) ∈ ws) (bq: (μ.O r).es=some es) (gz: (μ.O r).fz=false) (cK: (μ.O r).gen=g) (mR:V.al es=true)
    (jg:off+len≤es.length) (hv:aj X μ (.sl r g off len) v):yK X μ r0 i rs ws (.msl (μ.O r).sz es off len) v
 | ptr {r g idx off:Nat} {es:List V} {v:Value} (hw: (⟨i,r,none⟩:ed) ∈ ws) (bq: (μ.O r).es=some es) (gz: (μ.O r).fz=false) (cK: (μ.O r).gen=g) (mR:V.al es=true)
    (hv:aj X μ (.ptr r g idx off) v):yK X μ r0 i rs ws (.mptr (μ.O r).sz es idx off) v
 | fresh {sz:Nat} {v:Value} (hw: (⟨i,r0+i,some sz⟩:ed) ∈ ws) (bI:0 <sz) (hv: ∃a,v= .slice a 0 0):yK X μ r0 i rs ws (.msl sz [] 0 0) v
section
variable {X:Ctx} {μ:Mu} {r0:Nat}
theorem yK.more {i:Nat} {rs rs':List Nat} {ws Gl:List ed} {a:V} {v:Value} (h:yK X μ r0 i rs ws a v) (h1: ∀r ∈ rs,r ∈ rs') (h2: ∀w ∈ ws,w ∈ Gl):yK X μ r0 i rs' Gl a v:=by
 cases h with
 | plain hp hs=>exact .plain hp (hs.more h1)
 | sl hw a b c d e f=>exact .sl (h2 _ hw) a b c d e f
 | ptr hw a b c d f=>exact .ptr (h2 _ hw) a b c d f
 | fresh hw a b=>exact .fresh (h2 _ hw) a b
theorem mI.at {i:Nat} {asq:List V} {vs:List Value} {rs:List Nat} {ws:List ed} (h:mI X μ r0 i asq vs rs ws):
   asq.length=vs.length∧(∀w ∈ ws,i≤w.i)∧(∀t a,asq[t]? =some a→ ∃v,vs[t]? =some v∧yK X μ r0 (i+t) rs ws a v):=by
 induction h with
 | nil i=>simp
 | @plain i a v rs rs' asq vs ws hp hs h ih=>
   obtain⟨i1,i2,i3⟩:=ih
   refine⟨by simp[i1],fun w hw=>by have:=i2 w hw;omega,fun t b hb=> ?_⟩
   cases t with
   | zero=>simp at hb;subst hb;exact⟨v,abW,.plain hp (hs.more (by simp+contextual))⟩
   | succ t=>
     obtain⟨v',k1,k2⟩:=i3 t b (by simpa using hb)
     refine⟨v',by simpa using k1,?_⟩
     have e:i+(t+1)=i+1+t:=abV
     rw[e];exact k2.more (by simp+contextual) (fun w hw=>hw)
 | @sl i r g off len es v rs asq vs ws bq gz cK mR jg hv h ih=>
   obtain⟨i1,i2,i3⟩:=ih
   refine⟨by simp[i1],fun w hw=> ?_,fun t b hb=> ?_⟩
   · rcases ai0.1 hw with rfl| hw
     ·exact aiZ _
     ·have:=i2 w hw;omega
   · cases t with
     | zero=>simp at hb;subst hb;exact⟨v,abW,.sl abW bq gz cK mR jg hv⟩
     | succ t=>
       obtain⟨v',k1,k2⟩:=i3 t b (by simpa using hb)
       refine⟨v',by simpa using k1,?_⟩
       have e:i+(t+1)=i+1+t:=abV
       rw[e];exact k2.more (fun r hr=>hr) (fun w hw=>by simp[hw])
 | @ptr i r g idx off es v rs asq vs ws bq gz cK mR hv h ih=>
   obtain⟨i1,i2,i3⟩:=ih
   refine⟨by simp[i1],fun w hw=> ?_,fun t b hb=> ?_⟩
   · rcases ai0.1 hw with rfl| hw
     ·exact aiZ _
     ·have:=i2 w hw;omega
   · cases t with
     | zero=>simp at hb;subst hb;exact⟨v,abW,.ptr abW bq gz cK mR hv⟩
     | succ t=>
       obtain⟨v',k1,k2⟩:=i3 t b (by simpa using hb)
       refine⟨v',by simpa using k1,?_⟩
       have e:i+(t+1)=i+1+t:=abV
       rw[e];exact k2.more (fun r hr=>hr) (fun w hw=>by simp[hw])
 | @fresh i sz v rs asq vs ws bI hv h ih=>
   obtain⟨i1,i2,i3⟩:=ih
   refine⟨by simp[i1],fun w hw=> ?_,fun t b hb=> ?_⟩
   · rcases ai0.1 hw with rfl| hw
     ·exact aiZ _
     ·have:=i2 w hw;omega
   · cases t with
     | zero=>simp at hb;subst hb;exact⟨v,abW,.fresh abW bI hv⟩
     | succ t=>
       obtain⟨v',k1,k2⟩:=i3 t b (by simpa using hb)
       refine⟨v',by simpa using k1,?_⟩
       have e:i+(t+1)=i+1+t:=abV
       rw[e];exact k2.more (fun r hr=>hr) (fun w hw=>by simp[hw])
inductive P4:Nat→List ed→Prop
 | nil (i:Nat):P4 i []
 | cons {i:Nat} {w:ed} {ws:List ed} (h:i≤w.i) (hs:P4 (w.i+1) ws):P4 i (w::ws)
theorem P4.le {i j:Nat} {ws:List ed} (h:P4 j ws) (Jm:i≤j):P4 i ws:=by
 cases h with
 | nil=>exact .nil _
 | cons h hs=>exact .cons abV hs
theorem P4.mem {i:Nat} {ws:List ed} (h:P4 i ws): ∀w ∈ ws,i≤w.i:=by
 induction h with
 | nil=>simp
 | cons h hs ih=>
   intro w hw
   rcases ai0.1 hw with rfl| hw
   ·exact h
   ·have:=ih w hw;omega
theorem mI.inc {i:Nat} {asq:List V} {vs:List Value} {rs:List Nat} {ws:List ed} (h:mI X μ r0 i asq vs rs ws):P4 i ws:=by
 induction h with
 | nil i=>exact .nil i
 | plain hp hs h ih=>exact ih.le abV
 | sl _ _ _ _ _ _ h ih=>exact .cons abW ih
 | ptr _ _ _ _ _ h ih=>exact .cons abW ih
 | fresh _ _ h ih=>exact .cons abW ih
theorem j7 {φ:Nat→Row} {i:Nat} {ws:List ed} (h:P4 i ws): ∀w ∈ ws,fk φ ws w.i=(match w.fresh with| none=>φ w.r| some _=> ⟨0,0,0⟩):=by
 induction h with
 | nil=>simp
 | @cons i w ws h hs ih=>
   intro w' hw
   rcases ai0.1 hw with rfl| hw
   ·simp[fk]
   ·have:=hs.mem w' hw
    rw[fk,if_neg abV]
    exact ih w' hw
theorem P4.uniq {i:Nat} {ws:List ed} (h:P4 i ws): ∀w ∈ ws,∀w' ∈ ws,w.i=w'.i→w=w':=by
 induction h with
 | nil=>simp
 | @cons i w ws h hs ih=>
   intro a ha b hb e
   rcases ai0.1 ha with ha| ha<;>rcases ai0.1 hb with hb| hb
   ·rw[ha,hb]
   ·have:=hs.mem b hb;subst ha;omega
   ·have:=hs.mem a ha;subst hb;omega
   ·exact ih a ha b hb e
theorem te: ∀ {ws:List ed},distinct (ws.map (·.r))=true→ ∀w ∈ ws,∀w' ∈ ws,w.r=w'.r→w=w'
 | [],_,_,h,_,_,_=>by simp at h
 | w::ws,hd,a,ha,b,hb,e=>by
   simp only[List.map_cons,distinct,Bool.and_eq_true,ajJ,akt,decide_eq_false_iff_not] at hd
   rcases ai0.1 ha with ha| ha<;>rcases ai0.1 hb with hb| hb
   ·rw[ha,hb]
   ·exact absurd (ai9.2 ⟨b,hb,by rw[←e,ha]⟩) hd.1
   ·exact absurd (ai9.2 ⟨a,ha,by rw[e,hb]⟩) hd.1
   ·exact te hd.2 a ha b hb e
def dg (X:Ctx) (μ:Mu) (rs:List Nat) (ws:List ed) (b:Nat):Prop:=
 X.XJ b∨ ∃r,r ∉ rs∧r ∉ ws.map (·.r)∧(μ.O r).es.isSome=true∧(μ.O r).fz=false∧(μ.φ r).cap≠0∧(μ.φ r).bY=b
theorem lX {asq:List V} {vals:List Value} {rs:List Nat} {ws:List ed} (hp:mI X μ r0 0 asq vals rs ws) (j:Nat):
   (enter asq).O j=bH∨
   (∃r es,(⟨j,r,none⟩:ed) ∈ ws∧(μ.O r).es=some es∧(μ.O r).fz=false∧V.al es=true∧((enter asq).O j).gen=0∧((enter asq).O j).sz=(μ.O r).sz∧((enter asq).O j).fz=false∧((enter asq).O j).es=some es∧fk μ.φ ws j=μ.φ r)∨
   (∃sz,(⟨j,r0+j,some sz⟩:ed) ∈ ws∧0 <sz∧((enter asq).O j).gen=0∧((enter asq).O j).sz=sz∧((enter asq).O j).fz=false∧((enter asq).O j).es=some []∧fk μ.φ ws j=⟨0,0,0⟩):=by
 obtain⟨hl,-,kj⟩:=hp.at
 have hi:=hp.inc
 cases ha:asq[j]? with
 | none=>left;simp[enter,ha]
 | some a=>
   obtain⟨v,hv,hA⟩:=kj j a ha
   simp only[ajF] at hA
   cases hA with
   | plain mR hs=>
     left
     cases a<;>simp[V.aw] at mR<;>simp[enter,ha]
   | @sl r g off len es v hw bq gz cK mR jg BA=>
     right;left
     exact⟨r,es,hw,bq,gz,mR,by simp[enter,ha],by simp[enter,ha],by simp[enter,ha],by simp[enter,ha],by have:=j7 (φ:=μ.φ) hi _ hw;simpa using this⟩
   | @ptr r g idx off es v hw bq gz cK mR BA=>
     right;left
     exact⟨r,es,hw,bq,gz,mR,by simp[enter,ha],by simp[enter,ha],by simp[enter,ha],by simp[enter,ha],by have:=j7 (φ:=μ.φ) hi _ hw;simpa using this⟩
   | @fresh sz v hw bI BA=>
     right;right
     exact⟨sz,hw,bI,by simp[enter,ha],by simp[enter,ha],by simp[enter,ha],by simp[enter,ha],by have:=j7 (φ:=μ.φ) hi _ hw;simpa using this⟩
theorem xJ {asq:List V} {vals:List Value} {rs:List Nat} {ws:List ed} (hp:mI X μ r0 0 asq vals rs ws) {b:Nat} (h: (⟨μ.w,fk μ.φ ws,(enter asq).O⟩:Mu).own b):
  ∃i r,(⟨i,r,none⟩:ed) ∈ ws∧(μ.O r).es.isSome=true∧(μ.O r).fz=false∧(μ.φ r).cap≠0∧(μ.φ r).bY=b:=by
 obtain⟨j,h1,h2,h3,h4⟩:=h
 simp only at h1 h2 h3 h4
 rcases lX hp j with h| ⟨r,es,k1,k2,k3,k4,k5,k6,k7,k8,k9⟩ | ⟨sz,k1,k2,k3,k4,k5,k6,k7⟩
 ·rw[h] at h1;simp[bH] at h1
 ·rw[k9] at h3 h4
  exact⟨j,r,k1,by simp[k2],k3,h3,h4⟩
 ·rw[k7] at h3;simp at h3
theorem Pr {asq:List V} {vals:List Value} {rs:List Nat} {ws:List ed} (ho:bk X μ) (hp:mI X μ r0 0 asq vals rs ws) (Cx:apart rs (ws.map (·.r))=true) {b:Nat}
  (h:Own ⟨X.toTrEnv,dg X μ rs ws,X.tok⟩ ⟨μ.w,fk μ.φ ws,(enter asq).O⟩ b):
  Own X μ b∧ ∀r ∈ rs,(μ.O r).es.isSome=true→(μ.φ r).cap≠0→b≠(μ.φ r).bY:=by
 rcases h with h| h
 ·obtain⟨i,r,h1,h2,h3,h4,h5⟩:=xJ hp h
  refine⟨.inl ⟨r,h2,h3,h4,h5⟩,fun r' w9 k1 k2 e=> ?_⟩
  have cL:r≠r':=by
   rintro rfl
   have:=aiY.1 Cx r (ai9.2 ⟨_,h1,rfl⟩)
   simp[w9] at this
  exact ho.inj r r' cL h2 k1 h4 k2 (h5.trans e)
 ·rcases h with h| ⟨r,h0,h1,h2,h3,h4,h5⟩
  ·refine⟨.inr h,fun r' w9 k1 k2 e=>ho.uz r' k1 k2 (e ▸ h)⟩
  ·refine⟨.inl ⟨r,h2,h3,h4,h5⟩,fun r' w9 k1 k2 e=> ?_⟩
   have cL:r≠r':=fun e=>h0 (e ▸ w9)
   exact ho.inj r r' cL h2 k1 h4 k2 (h5.trans e)
theorem yL {asq:List V} {vals:List Value} {rs:List Nat} {ws:List ed} (ho:bk X μ) (hp:mI X μ r0 0 asq vals rs ws) (Cx:apart rs (ws.map (·.r))=true) (hd:distinct (ws.map (·.r))=true):
  vals.length=asq.length∧(∀t v,vals[t]? =some v→aj ⟨X.toTrEnv,dg X μ rs ws,X.tok⟩ ⟨μ.w,fk μ.φ ws,(enter asq).O⟩ ((enter asq).T t) v)∧
    bk ⟨X.toTrEnv,dg X μ rs ws,X.tok⟩ ⟨μ.w,fk μ.φ ws,(enter asq).O⟩:=by
 have jy:=fun b=>Pr (b:=b) ho hp Cx
 obtain⟨hl,-,kj⟩:=hp.at
 have hi:=hp.inc
 refine⟨hl.symm,fun t v hv=> ?_,?_⟩
 ·have ha:t<asq.length:=by rw[hl];exact(aiS.1 hv).1
  obtain⟨v',zB,hA⟩:=kj t asq[t] (aiW ha)
  rw[hv] at zB;injection zB with zB;subst zB
  have CA:asq[t]? =some asq[t]:=aiW ha
  simp only[ajF] at hA
  generalize hae:asq[t]=a at hA CA
  cases hA with
  | plain mR hs=>
    have: (enter asq).T t=a:=by cases a<;>simp[V.aw] at mR<;>simp[enter,CA]
    rw[this]
    exact hs _ _ rfl jy
  | @sl r g off len es v hw bq gz cK mR jg BA=>
    have e1: (enter asq).T t= .sl t 0 off len:=by simp[enter,CA]
    have e2: ((enter asq).O t).gen=0∧((enter asq).O t).sz=(μ.O r).sz:=by simp[enter,CA]
    have e3:fk μ.φ ws t=μ.φ r:=by have:=j7 (φ:=μ.φ) hi _ hw;simpa using this
    rw[e1]
    simp only[aj] at BA ⊢
    obtain⟨a,cap,rfl,q1,q2,q3⟩:=BA
    refine⟨a,cap,rfl,q1,ajG _,fun _=> ?_⟩
    rw[e2.2,e3];exact q3 cK
  | @ptr r g idx off es v hw bq gz cK mR BA=>
    have e1: (enter asq).T t= .ptr t 0 idx off:=by simp[enter,CA]
    have e2: ((enter asq).O t).gen=0∧((enter asq).O t).sz=(μ.O r).sz:=by simp[enter,CA]
    have e3:fk μ.φ ws t=μ.φ r:=by have:=j7 (φ:=μ.φ) hi _ hw;simpa using this
    rw[e1]
    simp only[aj] at BA ⊢
    obtain⟨a,rfl,q2,q3⟩:=BA
    refine⟨a,rfl,ajG _,fun _=> ?_⟩
    rw[e2.2,e3];exact q3 cK
  | @fresh sz v hw bI BA=>
    have e1: (enter asq).T t= .sl t 0 0 0:=by simp[enter,CA]
    have e3:fk μ.φ ws t=⟨0,0,0⟩:=by have:=j7 (φ:=μ.φ) hi _ hw;simpa using this
    rw[e1]
    obtain⟨a,rfl⟩:=BA
    simp only[aj]
    exact⟨a,0,rfl,aiZ _,ajG _,fun _=> ⟨by simp[enter,CA,bI],by rw[e3],.inl rfl⟩⟩
 ·refine⟨fun j es bq=> ?_,fun j1 j2 cL h1 h2 h3 h4=> ?_,fun j h1 h2 hb=> ?_,fun b hb=> ?_⟩
  · rcases lX hp j with h| ⟨r,es',k1,k2,k3,k4,k5,k6,k7,k8,k9⟩ | ⟨sz,k1,k2,k3,k4,k5,k6,k7⟩
    ·simp only[h,bH] at bq;simp at bq
    ·simp only at bq
     rw[k8] at bq;injection bq with bq;subst bq
     rcases ho.ok r es' k2 with⟨q1,q2,q3,q4⟩ | ⟨m1,m2,ob,m3,m4⟩
     ·refine .inl ?_
      unfold nv
      simp only[k6,k9]
      refine⟨q1,q2,q3,q4.imp id ?_⟩
      rintro⟨c,T,vs,p1,p2,p3,p4⟩
      exact⟨c,T,vs,p1,p2,bP (X:=X) (μ:=μ) (μ':=⟨μ.w,fk μ.φ ws,(enter asq).O⟩) rfl (fun b hb=> (jy b hb).1) k4 p3,p4⟩
     ·refine .inr ?_
      unfold vN
      simp only[k6,k9]
      refine⟨m1,m2,ob,m3,?_⟩
      rcases m4 with⟨ents,clock,e1,e2,e3⟩ | m4| ⟨mo,since,mY,e1,e2,e3⟩
      ·exact .inl ⟨ents,clock,e1,bP (X:=X) (μ:=μ) (μ':=⟨μ.w,fk μ.φ ws,(enter asq).O⟩) rfl (fun b hb=> (jy b hb).1) k4 e2,e3⟩
      ·exact .inr (.inl m4)
      ·  subst e2
         refine .inr (.inr ⟨mo,since,mY,e1,rfl,e3.imp id ?_⟩)
         rintro⟨m,ents,l1,l2,l3,l4,l5,l6⟩
         exact⟨m,ents,l1,fun h=>l2 (jy m h).1,l3,l4,l5,bP (X:=X) (μ:=μ) (μ':=⟨μ.w,fk μ.φ ws,(enter asq).O⟩) rfl (fun b hb=> (jy b hb).1) (by simpa [V.al,V.aw] using k4) l6⟩
    ·simp only at bq
     rw[k6] at bq;injection bq with bq;subst bq
     refine .inl ?_
     unfold nv
     simp only[k4,k7]
     exact⟨k2,abW,rfl,abW⟩
  · simp only at h1 h2 h3 h4 ⊢
    rcases lX hp j1 with h| ⟨r,es',k1,k2,k3,k4,k5,k6,k7,k8,k9⟩ | ⟨sz,k1,k2,k3,k4,k5,k6,k7⟩
    ·rw[h] at h1;simp[bH] at h1
    ·rcases lX hp j2 with h| ⟨r',Ct,l1,l2,l3,l4,l5,l6,l7,l8,l9⟩ | ⟨sz,l1,l2,l3,l4,l5,l6,l7⟩
     ·rw[h] at h2;simp[bH] at h2
     ·rw[k9] at h3 ⊢
      rw[l9] at h4 ⊢
      refine ho.inj r r' (fun e=> ?_) (by simp[k2]) (by simp[l2]) h3 h4
      have:=te hd _ k1 _ l1 e
      injection this with e1;exact cL e1
     ·rw[l7] at h4;simp at h4
    ·rw[k7] at h3;simp at h3
  · simp only at h1 h2 hb
    rcases lX hp j with h| ⟨r,es',k1,k2,k3,k4,k5,k6,k7,k8,k9⟩ | ⟨sz,k1,k2,k3,k4,k5,k6,k7⟩
    ·rw[h] at h1;simp[bH] at h1
    ·rw[k9] at h2 hb
     rcases hb with hb| ⟨r',g0,g1,g2,g3,g4,g5⟩
     ·exact ho.uz r (by simp[k2]) h2 hb
     ·have cL:r'≠r:=fun e=>g1 (ai9.2 ⟨_,k1,e.symm⟩)
      exact ho.inj r' r cL g2 (by simp[k2]) g4 h2 g5
    ·rw[k7] at h2;simp at h2
  · rcases hb with hb| ⟨r',g0,g1,g2,g3,g4,g5⟩
    ·exact ho.blt b hb
    ·obtain⟨es',he⟩:=ai1.1 g2
     rw[←g5];exact gu.bY (ho.ok r' es' he) g4
end
end Go.AM
namespace Go.AM
open Go Go.RowKit
section
variable {X X':Ctx} {μ μ':Mu}
mutual
theorem weaken (hX:X'.toTrEnv=X.toTrEnv) (hk:X'.tok=X.tok) (hw:μ'.w=μ.w) (hφ:μ'.φ=μ.φ) (hO: ∀r,(μ'.O r).gen=(μ.O r).gen∧(μ'.O r).sz=(μ.O r).sz) (ho: ∀b,Own X' μ' b→Own X μ b): ∀ {x:V} {v:Value},aj X μ x v→aj X' μ' x v
 | .bool _,_,h| .int ..,_,h| .float _,_,h| .str _,_,h| .nilp,_,h| .nilfn,_,h| .nili,_,h| .nils,_,h=>by simpa [aj] using h
 | .any,_,_=>by simp[aj]
 | .own ..,_,h| .msl ..,_,h| .mptr ..,_,h=>by simp[aj] at h
 | .agg cs,_,h=>by
   simp only[aj] at h ⊢
   obtain⟨h1,vs,rfl,h2⟩:=h
   exact⟨h1,vs,rfl,nF hX hk hw hφ hO ho h2⟩
 | .tuple cs,_,h=>by
   simp only[aj] at h ⊢
   obtain⟨vs,rfl,h2⟩:=h
   exact⟨vs,rfl,nF hX hk hw hφ hO ho h2⟩
 | .bfn f cs,_,h=>by
   simp only[aj] at h ⊢
   obtain⟨F,cv,rfl,h1,h2⟩:=h
   exact⟨F,cv,rfl,by rw[hX];exact h1,nF hX hk hw hφ hO ho h2⟩
 | .fn f cs,_,h=>by
   simp only[aj] at h ⊢
   obtain⟨F,cv,rfl,h1,h2⟩:=h
   exact⟨F,cv,rfl,by rw[hX];exact h1,nF hX hk hw hφ hO ho h2⟩
 | .iface t x,_,h=>by
   simp only[aj] at h ⊢
   obtain⟨F,y,rfl,h1,h2⟩:=h
   exact⟨F,y,rfl,by rw[hX];exact h1,weaken hX hk hw hφ hO ho h2⟩
 | .lit sz xs,_,h=>by
   simp only[aj] at h ⊢
   obtain⟨h0,jX,a,cap,vs,rfl,h1,h2,h3⟩:=h
   refine⟨h0,jX,a,cap,vs,rfl,h1,nF hX hk hw hφ hO ho h2,h3.imp id ?_⟩
   rintro⟨b,o,rfl,hb,hs,hr⟩
   exact⟨b,o,rfl,fun hh=>hb (ho b hh),by rw[hw];exact hs,by rw[hw];exact hr⟩
 | .sl r g off len,_,h=>by
   simp only[aj] at h ⊢
   rw[hφ,(hO r).1,(hO r).2];exact h
 | .ptr r g idx off,_,h=>by
   simp only[aj] at h ⊢
   rw[hφ,(hO r).1,(hO r).2];exact h
 | .litk sz xs,_,h=>by
   simp only[aj] at h ⊢
   obtain⟨h0,jX,a,cap,vs,rfl,h1,h2,h3⟩:=h
   refine⟨h0,jX,a,cap,vs,rfl,h1,nF hX hk hw hφ hO ho h2,h3.imp id ?_⟩
   rintro⟨rfl,hb,hs,hr⟩
   rw[hk]
   exact⟨rfl,fun hh=>hb (ho _ hh),by rw[hw];exact hs,by rw[hw];exact hr⟩
 | .epk i sz e off,_,h=>by
   simp only[aj] at h ⊢
   obtain⟨h0,jX,x,rfl,hb,hs,h1,hr⟩:=h
   rw[hk]
   exact⟨h0,jX,x,rfl,fun hh=>hb (ho _ hh),by rw[hw];exact hs,weaken hX hk hw hφ hO ho h1,by rw[hw];exact hr⟩
 | .eptr e off,_,h=>by
   simp only[aj] at h ⊢
   obtain⟨h0,jX,b,o,sz,x,rfl,hb,hs,h1,hr⟩:=h
   exact⟨h0,jX,b,o,sz,x,rfl,fun hh=>hb (ho b hh),by rw[hw];exact hs,weaken hX hk hw hφ hO ho h1,by rw[hw];exact hr⟩
 | .mp r g,_,h| .it r g,_,h=>by
   simp only[aj] at h ⊢
   rw[hφ,(hO r).1,(hO r).2];exact h
 | .mlit es,_,h=>by
   simp only[aj] at h ⊢
   obtain⟨h0,h⟩:=h
   refine⟨h0,h.imp id ?_⟩
   rintro⟨a,ents,clock,rfl,hb,hs,h1,h2⟩
   exact⟨a,ents,clock,rfl,fun hh=>hb (ho a hh),by rw[hw];exact hs,by rw[hw];exact h1,nF hX hk hw hφ hO ho h2⟩
theorem nF (hX:X'.toTrEnv=X.toTrEnv) (hk:X'.tok=X.tok) (hw:μ'.w=μ.w) (hφ:μ'.φ=μ.φ) (hO: ∀r,(μ'.O r).gen=(μ.O r).gen∧(μ'.O r).sz=(μ.O r).sz) (ho: ∀b,Own X' μ' b→Own X μ b): ∀ {xs:List V} {vs:List Value},ag X μ xs vs→ag X' μ' xs vs
 | [],[],_=>by simp[ag]
 | [],_::_,h=>by simp[ag] at h
 | _::_,[],h=>by simp[ag] at h
 | x::xs,v::vs,h=>by
   simp only[ag] at h ⊢
   exact⟨weaken hX hk hw hφ hO ho h.1,nF hX hk hw hφ hO ho h.2⟩
end
mutual
theorem iL (hX:X'.toTrEnv=X.toTrEnv): ∀ {x:V} {v:Value},V.isScalar x=true→aj X μ x v→aj X' μ' x v
 | .bool _,_,_,h| .int ..,_,_,h| .float _,_,_,h| .str _,_,_,h| .nilp,_,_,h| .nilfn,_,_,h| .nili,_,_,h| .nils,_,_,h=>by simpa [aj] using h
 | .any,_,hp,_| .own ..,_,hp,_| .msl ..,_,hp,_| .mptr ..,_,hp,_| .sl ..,_,hp,_| .ptr ..,_,hp,_| .lit ..,_,hp,_| .eptr ..,_,hp,_| .litk ..,_,hp,_| .epk ..,_,hp,_| .mp ..,_,hp,_| .it ..,_,hp,_| .mlit ..,_,hp,_| .bfn ..,_,hp,_| .fn ..,_,hp,_| .iface ..,_,hp,_=>by simp[V.isScalar] at hp
 | .agg cs,_,hp,h=>by
   simp only[aj] at h ⊢
   obtain⟨h1,vs,rfl,h2⟩:=h
   exact⟨h1,vs,rfl,bT hX (by simpa [V.isScalar] using hp) h2⟩
 | .tuple cs,_,hp,h=>by
   simp only[aj] at h ⊢
   obtain⟨vs,rfl,h2⟩:=h
   exact⟨vs,rfl,bT hX (by simpa [V.isScalar] using hp) h2⟩
theorem bT (hX:X'.toTrEnv=X.toTrEnv): ∀ {xs:List V} {vs:List Value},V.bn xs=true→ag X μ xs vs→ag X' μ' xs vs
 | [],[],_,_=>by simp[ag]
 | [],_::_,_,h=>by simp[ag] at h
 | _::_,[],_,h=>by simp[ag] at h
 | x::xs,v::vs,hp,h=>by
   simp only[ag] at h ⊢
   simp only[V.bn,Bool.and_eq_true] at hp
   exact⟨iL hX hp.1 h.1,bT hX hp.2 h.2⟩
end
end
structure Lt (Y:Ctx) (μf μ1:Mu) (r j:Nat) (row:Row) (o:Obj):Prop where
 es: ∃es,o.es=some es∧V.al es=true∧0 <o.sz∧es.length≤row.cap∧es.all (aV · o.sz)=true∧
  (row.cap=0∨ ∃c T vs,μ1.w.heap[row.bY]? =some (.cells c T (0,0))∧row.base+row.cap*o.sz≤c.size∧ag Y μ1 es vs∧dH μ1.w row.bY row.base o.sz vs)
 live: (μ1.O j).es.isSome=true∧(μ1.O j).fz=false
 bY:row.cap≠0→(μ1.φ j).cap≠0∧row.bY=(μ1.φ j).bY
 gen: (μf.O r).gen<o.gen∨(o.gen=(μf.O r).gen∧row=μf.φ r∧o.sz=(μf.O r).sz)
 sc: (∀es,(μ1.O j).es=some es→V.bn es=true)→ ∀es,o.es=some es→V.bn es=true
structure gA (Y:Ctx) (μf μ1:Mu) (U:Nat→Prop) (A:Nat→Option Nat) (φ:Nat→Row) (O:Nat→Obj):Prop where
 IV: ∀r,A r=none→O r=μf.O r∧φ r=μf.φ r
 Ep: ∀r j,A r=some j→Lt Y μf μ1 r j (φ r) (O r)∧U j
 inj: ∀r1 r2 j,A r1=some j→A r2=some j→r1=r2
def eA (φ:Nat→Row) (O:Nat→Obj) (φ':Nat→Row) (O':Nat→Obj):Prop:=
 ∀r,(O r).gen≤(O' r).gen∧((O' r).gen=(O r).gen→φ' r=φ r∧(O' r).sz=(O r).sz)
theorem eA.refl (φ:Nat→Row) (O:Nat→Obj):eA φ O φ O:=fun _=> ⟨aiZ _,fun _=> ⟨rfl,rfl⟩⟩
theorem eA.trans {φ φ' φ'':Nat→Row} {O O' O'':Nat→Obj} (h:eA φ O φ' O') (k:eA φ' O' φ'' O''):eA φ O φ'' O'':=fun r=>by
 obtain⟨h1,h2⟩:=h r
 obtain⟨k1,k2⟩:=k r
 refine⟨ajb h1 k1,fun e=> ?_⟩
 obtain⟨a1,a2⟩:=h2 abV
 obtain⟨b1,b2⟩:=k2 abV
 exact⟨b1.trans a1,b2.trans a2⟩
def pP (μ1:Mu) (φ:Nat→Row) (O:Nat→Obj) (i r g:Nat):Prop:=g≤(O r).gen∧((O r).gen=g→φ r=μ1.φ i∧(O r).sz=(μ1.O i).sz)
theorem pP.mono {μ1:Mu} {φ φ':Nat→Row} {O O':Nat→Obj} {i r g:Nat} (h:pP μ1 φ O i r g) (m:eA φ O φ' O'):pP μ1 φ' O' i r g:=by
 obtain⟨m1,m2⟩:=m r
 refine⟨ajb h.1 m1,fun e=> ?_⟩
 have:=h.1
 obtain⟨a1,a2⟩:=m2 abV
 obtain⟨b1,b2⟩:=h.2 abV
 exact⟨a1.trans b1,a2.trans b2⟩
theorem gA.take {Y:Ctx} {μf μ1:Mu} {U U':Nat→Prop} {A:Nat→Option Nat} {φ:Nat→Row} {O:Nat→Obj} (h:gA Y μf μ1 U A φ O) {r j:Nat} {row:Row} {o:Obj} (hj: ¬U j) (hU: ∀i,U i→U' i) (hUj:U' j)
  (ht:Lt Y μf μ1 r j row o):gA Y μf μ1 U' (da A r (some j)) (da φ r row) (da O r o) where
 IV:=fun r' e=>by
  by_cases e':r'=r
  ·subst e';simp[aA] at e
  ·rw[aX _ _ e'] at e ⊢;rw[aX _ _ e'];exact h.IV r' e
 Ep:=fun r' j' e=>by
  by_cases e':r'=r
  ·subst e';simp only[aA] at e ⊢;injection e with e;subst e;exact⟨ht,hUj⟩
  ·rw[aX _ _ e'] at e ⊢;rw[aX _ _ e']
   obtain⟨k1,k2⟩:=h.Ep r' j' e
   exact⟨k1,hU _ k2⟩
 inj:=fun r1 r2 j' e1 e2=>by
  by_cases q1:r1=r<;>by_cases q2:r2=r
  ·rw[q1,q2]
  ·subst q1
   simp only[aA] at e1;injection e1 with e1;subst e1
   rw[aX _ _ q2] at e2
   exact absurd (h.Ep r2 _ e2).2 hj
  ·subst q2
   simp only[aA] at e2;injection e2 with e2;subst e2
   rw[aX _ _ q1] at e1
   exact absurd (h.Ep r1 _ e1).2 hj
  ·rw[aX _ _ q1] at e1
   rw[aX _ _ q2] at e2
   exact h.inj r1 r2 j' e1 e2
theorem eA.da {φ:Nat→Row} {O:Nat→Obj} {r:Nat} {row:Row} {o:Obj} (h: (O r).gen<o.gen∨(o.gen=(O r).gen∧row=φ r∧o.sz=(O r).sz)):eA φ O (da φ r row) (da O r o):=fun r'=>by
 by_cases e:r'=r
 ·subst e
  simp only[aA]
  rcases h with h| ⟨h1,h2,h3⟩
  ·exact⟨abV,fun e=>abV⟩
  ·exact⟨abV,fun _=> ⟨h2,h3⟩⟩
 ·simp[aX _ _ e]
end Go.AM
namespace Go.AM
open Go Go.RowKit
section
variable {X Y:Ctx} {μ μf μ1:Mu} {r0:Nat} {C:bo} {T:Nat→V}
theorem ur (h1:bk Y μ1) {r i:Nat} {es:List V} {o:Obj} (h0:0 < (μ1.O i).sz) (bq: (μ1.O i).es=some es) (gz: (μ1.O i).fz=false) (hp:V.al es=true) (ho:o.es=some es) (bI:o.sz=(μ1.O i).sz)
  (hg: (μf.O r).gen<o.gen∨(o.gen=(μf.O r).gen∧μ1.φ i=μf.φ r∧o.sz=(μf.O r).sz)):Lt Y μf μ1 r i (μ1.φ i) o:=by
 obtain⟨q1,q2,q3,q4⟩:=h1.row i es bq h0
 refine⟨⟨es,ho,hp,by rw[bI];exact q1,q2,by rw[bI];exact q3,?_⟩,⟨by simp[bq],gz⟩,fun hc=> ⟨hc,rfl⟩,hg,fun hs es' he=> ?_⟩
 ·rw[bI];exact q4
 ·rw[ho] at he;injection he with he;subst he;exact hs _ bq
theorem lM {O:Nat→Obj} {i sz off len:Nat} {mY:List V} {asq:List V} {outs:List (Nat×List V)} (h:cO O i (.msl sz mY off len::asq)=some outs):
  ∃es mK,(O i).es=some es∧cO O (i+1) asq=some mK∧(O i).fz=false∧(O i).sz=sz∧V.al es=true∧outs=((O i).gen,es)::mK:=by
 simp only[cO] at h
 split at h
 ·rename_i es mK h1 h2
  split at h
  ·rename_i hc
   injection h with h
   exact⟨es,mK,h1,h2,hc.1,hc.2.1,hc.2.2,h.symm⟩
  ·simp at h
 ·simp at h
theorem tf {O:Nat→Obj} {i sz off len:Nat} {mY:List V} {asq:List V} {outs:List (Nat×List V)} (h:cO O i (.mptr sz mY off len::asq)=some outs):
  ∃es mK,(O i).es=some es∧cO O (i+1) asq=some mK∧(O i).fz=false∧(O i).sz=sz∧V.al es=true∧outs=((O i).gen,es)::mK:=by
 simp only[cO] at h
 split at h
 ·rename_i es mK h1 h2
  split at h
  ·rename_i hc
   injection h with h
   exact⟨es,mK,h1,h2,hc.1,hc.2.1,hc.2.2,h.symm⟩
  ·simp at h
 ·simp at h
theorem rq {O:Nat→Obj} {i:Nat} {a:V} {asq:List V} (h:V.aw a=true):cO O i (a::asq)=cO O (i+1) asq:=by
 cases a<;>simp[V.aw] at h<;>rfl
theorem tg (h1:bk Y μ1) {w0:List ed} (dA: ∀w ∈ w0,w.fresh=none→(μ1.O w.i).gen=0→μ1.φ w.i=μ.φ w.r) (hφ:μf.φ=μ.φ) (XZ: ∀w ∈ w0,μf.O w.r=μ.O w.r) {S:Nat→Prop} (hS: ∀w ∈ w0,S w.i):
   ∀ {i:Nat} {asq:List V} {vs:List Value} {rs:List Nat} {ws:List ed},mI X μ r0 i asq vs rs ws→ ∀ {outs:List (Nat×List V)} {A:Nat→Option Nat} {φ:Nat→Row} {O:Nat→Obj} {k:List (Nat×Nat×Nat)→Act} {p:V×St},
    cO μ1.O i asq=some outs→gA Y μf μ1 (fun j=>j<i∧S j) A φ O→(∀w ∈ ws,w ∈ w0)→(∀w ∈ ws,A w.r=none)→distinct (ws.map (·.r))=true→(eF ws outs k).run C ⟨T,O⟩=some p→
    ∃A' φ' O' gs,(k gs).run C ⟨T,O'⟩=some p∧gA Y μf μ1 (fun j=>j<i+asq.length∧S j) A' φ' O'∧eA φ O φ' O'∧(∀w ∈ ws,A' w.r≠none)∧(∀r,A r≠none→A' r≠none)∧
       ∀x ∈ gs,pP μ1 φ' O' x.1 x.2.1 x.2.2:=by
 intro i asq vs rs ws hp
 induction hp with
 | nil i=>
   intro outs A φ O k p ho ht _ _ _ ah
   simp[cO] at ho;subst ho
   exact⟨A,φ,O,[],ah,by simpa using ht,eA.refl _ _,abW,fun _ h=>h,abW⟩
 | @plain i a v rs rs' asq vs ws mR hs h ih=>
   intro outs A φ O k p ho ht hw hA hd ah
   rw[rq mR] at ho
   have lE:gA Y μf μ1 (fun j=>j<i+1∧S j) A φ O:=⟨ht.IV,fun r j e=> ⟨(ht.Ep r j e).1,⟨by have:=(ht.Ep r j e).2.1;omega,(ht.Ep r j e).2.2⟩⟩,ht.inj⟩
   obtain⟨A',φ',O',gs,k1,k2,k3,k4,k5,k6⟩:=ih ho lE hw hA hd ah
   refine⟨A',φ',O',gs,k1,?_,k3,k4,k5,k6⟩
   have e:i+(a::asq).length=i+1+asq.length:=by simp;omega
   rw[e];exact k2
 | @sl i r g off len mY v rs asq vs ws bq gz cK mR jg hv h ih=>
   intro outs A φ O k p ho ht hw hA hd ah
   obtain⟨es,mK,o1,o2,o3,o4,o5,rfl⟩:=lM ho
   simp only[eF,Act.run] at ah
   have X1:=hA ⟨i,r,none⟩ abW
   simp only at X1
   obtain⟨n1,n2⟩:=ht.IV r X1
   have hOr:μf.O r=μ.O r:=XZ ⟨i,r,none⟩ (hw _ abW)
   have B3: (μf.O r).gen< (O r).gen+(μ1.O i).gen∨((O r).gen+(μ1.O i).gen=(μf.O r).gen∧μ1.φ i=μf.φ r∧(O r).sz=(μf.O r).sz):=by
    rw[n1]
    by_cases hz: (μ1.O i).gen=0
    ·  right;refine⟨abV,?_,rfl⟩
       rw[hφ];exact dA ⟨i,r,none⟩ (hw _ abW) rfl hz
    ·left;omega
   have y9:Lt Y μf μ1 r i (μ1.φ i) {O r with gen:=(O r).gen+(μ1.O i).gen,es:=some es}:=
    ur h1 (by rw[o4];simp only[aj] at hv;obtain⟨_,_,_,_,_,hh⟩:=hv;exact(hh cK).1) o1 o3 o5 rfl (by simp only[n1,hOr];exact o4.symm) B3
   have lE:=ht.take (U':=fun j=>j<i+1∧S j) abW (fun j hj=> ⟨abV,hj.2⟩) ⟨abW,hS ⟨i,r,none⟩ (hw _ abW)⟩ y9
   have hm:eA φ O (da φ r (μ1.φ i)) (da O r {O r with gen:=(O r).gen+(μ1.O i).gen,es:=some es}):=by
    refine eA.da ?_
    rw[n2]
    have:=B3
    rw[←n1] at this
    exact this.imp id fun hh=> ⟨hh.1,hh.2.1,hh.2.2⟩
   simp only[List.map_cons,distinct,Bool.and_eq_true,ajJ,akt,decide_eq_false_iff_not] at hd
   obtain⟨A',φ',O',gs,k1,k2,k3,k4,k5,k6⟩:=ih o2 lE (fun w lH=>hw w (by simp[lH])) (fun w lH=>by
    have:w.r≠r:=fun e=>hd.1 (ai9.2 ⟨w,lH,e⟩)
    rw[aX _ _ this];exact hA w (by simp[lH])) hd.2 ah
   refine⟨A',φ',O',_,k1,?_,hm.trans k3,fun w lH=> ?_,fun r' w9=>k5 r' ?_,fun x hx=> ?_⟩
   ·have e:i+(V.msl (μ.O r).sz mY off len::asq).length=i+1+asq.length:=by simp;omega
    rw[e];exact k2
   ·rcases ai0.1 lH with rfl| lH
    ·exact k5 r (by simp[aA])
    ·exact k4 w lH
   ·by_cases e:r'=r
    ·subst e;simp[aA]
    ·rw[aX _ _ e];exact w9
   ·rcases ai0.1 hx with rfl| hx
    ·  refine pP.mono ⟨?_,fun _=> ?_⟩ k3
       ·simp[aA]
       ·simp only[aA];exact⟨trivial,by rw[n1,hOr];exact o4.symm⟩
    ·exact k6 x hx
 | @ptr i r g idx off mY v rs asq vs ws bq gz cK mR hv h ih=>
   intro outs A φ O k p ho ht hw hA hd ah
   obtain⟨es,mK,o1,o2,o3,o4,o5,rfl⟩:=tf ho
   simp only[eF,Act.run] at ah
   have X1:=hA ⟨i,r,none⟩ abW
   simp only at X1
   obtain⟨n1,n2⟩:=ht.IV r X1
   have hOr:μf.O r=μ.O r:=XZ ⟨i,r,none⟩ (hw _ abW)
   have B3: (μf.O r).gen< (O r).gen+(μ1.O i).gen∨((O r).gen+(μ1.O i).gen=(μf.O r).gen∧μ1.φ i=μf.φ r∧(O r).sz=(μf.O r).sz):=by
    rw[n1]
    by_cases hz: (μ1.O i).gen=0
    ·  right;refine⟨abV,?_,rfl⟩
       rw[hφ];exact dA ⟨i,r,none⟩ (hw _ abW) rfl hz
    ·left;omega
   have y9:Lt Y μf μ1 r i (μ1.φ i) {O r with gen:=(O r).gen+(μ1.O i).gen,es:=some es}:=
    ur h1 (by rw[o4];simp only[aj] at hv;obtain⟨_,_,_,hh⟩:=hv;exact(hh cK).1) o1 o3 o5 rfl (by simp only[n1,hOr];exact o4.symm) B3
   have lE:=ht.take (U':=fun j=>j<i+1∧S j) abW (fun j hj=> ⟨abV,hj.2⟩) ⟨abW,hS ⟨i,r,none⟩ (hw _ abW)⟩ y9
   have hm:eA φ O (da φ r (μ1.φ i)) (da O r {O r with gen:=(O r).gen+(μ1.O i).gen,es:=some es}):=by
    refine eA.da ?_
    rw[n2]
    have:=B3
    rw[←n1] at this
    exact this.imp id fun hh=> ⟨hh.1,hh.2.1,hh.2.2⟩
   simp only[List.map_cons,distinct,Bool.and_eq_true,ajJ,akt,decide_eq_false_iff_not] at hd
   obtain⟨A',φ',O',gs,k1,k2,k3,k4,k5,k6⟩:=ih o2 lE (fun w lH=>hw w (by simp[lH])) (fun w lH=>by
    have:w.r≠r:=fun e=>hd.1 (ai9.2 ⟨w,lH,e⟩)
    rw[aX _ _ this];exact hA w (by simp[lH])) hd.2 ah
   refine⟨A',φ',O',_,k1,?_,hm.trans k3,fun w lH=> ?_,fun r' w9=>k5 r' ?_,fun x hx=> ?_⟩
   ·have e:i+(V.mptr (μ.O r).sz mY idx off::asq).length=i+1+asq.length:=by simp;omega
    rw[e];exact k2
   ·rcases ai0.1 lH with rfl| lH
    ·exact k5 r (by simp[aA])
    ·exact k4 w lH
   ·by_cases e:r'=r
    ·subst e;simp[aA]
    ·rw[aX _ _ e];exact w9
   ·rcases ai0.1 hx with rfl| hx
    ·  refine pP.mono ⟨?_,fun _=> ?_⟩ k3
       ·simp[aA]
       ·simp only[aA];exact⟨trivial,by rw[n1,hOr];exact o4.symm⟩
    ·exact k6 x hx
 | @fresh i sz v rs asq vs ws bI hv h ih=>
   intro outs A φ O k p ho ht hw hA hd ah
   obtain⟨es,mK,o1,o2,o3,o4,o5,rfl⟩:=lM ho
   simp only[eF,Act.run] at ah
   have X1:=hA ⟨i,r0+i,some sz⟩ abW
   simp only at X1
   obtain⟨n1,n2⟩:=ht.IV (r0+i) X1
   have y9:Lt Y μf μ1 (r0+i) i (μ1.φ i) {gen:=(O (r0+i)).gen+1,sz,arr:=true,fz:=false,es:=some es}:=
    ur h1 (by rw[o4];exact bI) o1 o3 o5 rfl o4.symm (.inl (by simp only[n1];omega))
   have lE:=ht.take (U':=fun j=>j<i+1∧S j) abW (fun j hj=> ⟨abV,hj.2⟩) ⟨abW,hS ⟨i,r0+i,some sz⟩ (hw _ abW)⟩ y9
   have hm:eA φ O (da φ (r0+i) (μ1.φ i)) (da O (r0+i) {gen:=(O (r0+i)).gen+1,sz,arr:=true,fz:=false,es:=some es}):=
    eA.da (.inl abW)
   simp only[List.map_cons,distinct,Bool.and_eq_true,ajJ,akt,decide_eq_false_iff_not] at hd
   obtain⟨A',φ',O',gs,k1,k2,k3,k4,k5,k6⟩:=ih o2 lE (fun w lH=>hw w (by simp[lH])) (fun w lH=>by
    have:w.r≠r0+i:=fun e=>hd.1 (ai9.2 ⟨w,lH,e⟩)
    rw[aX _ _ this];exact hA w (by simp[lH])) hd.2 ah
   refine⟨A',φ',O',_,k1,?_,hm.trans k3,fun w lH=> ?_,fun r' w9=>k5 r' ?_,fun x hx=> ?_⟩
   ·have e:i+(V.msl sz [] 0 0::asq).length=i+1+asq.length:=by simp;omega
    rw[e];exact k2
   ·rcases ai0.1 lH with rfl| lH
    ·exact k5 (r0+i) (by simp[aA])
    ·exact k4 w lH
   ·by_cases e:r'=r0+i
    ·subst e;simp[aA]
    ·rw[aX _ _ e];exact w9
   ·rcases ai0.1 hx with rfl| hx
    ·  refine pP.mono ⟨?_,fun _=> ?_⟩ k3
       ·simp[aA]
       ·simp only[aA];exact⟨trivial,o4.symm⟩
    ·exact k6 x hx
theorem TU {O:Nat→Obj} {i:Nat} {asq:List V} {vs:List Value} {rs:List Nat} {ws:List ed} (hp:mI X μ r0 i asq vs rs ws): ∀ {outs:List (Nat×List V)},cO O i asq=some outs→
   ∀w ∈ ws,∃g es,(O w.i).es=some es∧(g,es) ∈ outs:=by
 induction hp with
 | nil i=>intro outs _ w hw;simp at hw
 | plain mR hs h ih=>intro outs ho;rw[rq mR] at ho;exact ih ho
 | @sl i r g off len mY v rs asq vs ws bq gz cK mR jg hv h ih=>
   intro outs ho w hw
   obtain⟨es,mK,o1,o2,o3,o4,o5,rfl⟩:=lM ho
   rcases ai0.1 hw with rfl| hw
   ·exact⟨_,es,o1,List.mem_cons_self⟩
   ·obtain⟨g,es',k1,k2⟩:=ih o2 w hw;exact⟨g,es',k1,by simp[k2]⟩
 | @ptr i r g idx off mY v rs asq vs ws bq gz cK mR hv h ih=>
   intro outs ho w hw
   obtain⟨es,mK,o1,o2,o3,o4,o5,rfl⟩:=tf ho
   rcases ai0.1 hw with rfl| hw
   ·exact⟨_,es,o1,List.mem_cons_self⟩
   ·obtain⟨g,es',k1,k2⟩:=ih o2 w hw;exact⟨g,es',k1,by simp[k2]⟩
 | @fresh i sz v rs asq vs ws bI hv h ih=>
   intro outs ho w hw
   obtain⟨es,mK,o1,o2,o3,o4,o5,rfl⟩:=lM ho
   rcases ai0.1 hw with rfl| hw
   ·exact⟨_,es,o1,List.mem_cons_self⟩
   ·obtain⟨g,es',k1,k2⟩:=ih o2 w hw;exact⟨g,es',k1,by simp[k2]⟩
end
end Go.AM
namespace Go.AM
open Go Go.RowKit
def after (Y:Ctx) (μ1:Mu) (n:Nat) (bB:Bool) (b:Nat):Prop:=
 Y.XJ b∨ ∃j,(bB=true∨j<n)∧(μ1.O j).es.isSome=true∧(μ1.O j).fz=false∧(μ1.φ j).cap≠0∧(μ1.φ j).bY=b
def quiet (μ1:Mu) (φ:Nat→Row) (O:Nat→Obj):Mu:=⟨μ1.w,φ,fun r=> {O r with fz:=true}⟩
theorem xK {μ1:Mu} {φ:Nat→Row} {O:Nat→Obj} {b:Nat}: ¬ (quiet μ1 φ O).own b:=by
 rintro⟨r,_,h,_⟩;simp[quiet] at h
theorem IW {μ1:Mu} {φ φ':Nat→Row} {O O':Nat→Obj} (h:eA φ O φ' O'):Le (quiet μ1 φ O) (quiet μ1 φ' O'):=
 ⟨aiZ _,fun _ _ _=> ⟨rfl,xK⟩,fun r=> (h r).1,fun r e=> (h r).2 e,rfl,rfl,rfl,fun _ _=>rfl⟩
theorem kR: ∀ {asq bs:List Nat},distinct (asq++bs)=true→distinct asq=true∧distinct bs=true∧ ∀b ∈ bs,b ∉ asq
 | [],bs,h=> ⟨rfl,h,fun _ _=>abW⟩
 | a::asq,bs,h=>by
   simp only[ajn,distinct,Bool.and_eq_true,ajJ,akt,decide_eq_false_iff_not,ai6,not_or] at h ⊢
   obtain⟨h1,h2⟩:=h
   obtain⟨k1,k2,k3⟩:=kR h2
   refine⟨⟨h1.1,k1⟩,k2,fun b hb=> ?_⟩
   simp only[ai0,not_or]
   exact⟨fun e=>h1.2 (e ▸ hb),k3 b hb⟩
theorem yM {i r g:Nat}: ∀ {gs:List (Nat×Nat×Nat)},oU i gs=some (r,g)→(i,r,g) ∈ gs
 | [],h=>by simp[oU] at h
 | (j,r',g')::gs,h=>by
   simp only[oU] at h
   split at h
   · rename_i e
     subst e
     simp only[aiT,aiX] at h
     simp[h.1,h.2]
   ·exact List.mem_cons_of_mem _ (yM h)
theorem ru: ∀ {es:List V} (n:Nat),V.bn es=true→V.bn (es.take n)=true
 | _,0,_=>by simp[V.bn]
 | [],_+1,_=>by simp[V.bn]
 | x::xs,n+1,h=>by
   simp only[V.bn,Bool.and_eq_true] at h
   simp only[ajO,V.bn,Bool.and_eq_true]
   exact⟨h.1,ru n h.2⟩
theorem rz: ∀ {es:List V} (n:Nat),V.bn es=true→V.bn (es.drop n)=true
 | _,0,h=>by simpa using h
 | [],_+1,_=>by simp[V.bn]
 | x::xs,n+1,h=>by
   simp only[V.bn,Bool.and_eq_true] at h
   simpa using rz n h.2
theorem xL {es:List V} {off len:Nat} (h:V.bn es=true):V.bn (aG es off len)=true:=ru _ (rz _ h)
section
variable {Y:Ctx} {μf μ1:Mu} {n:Nat} {bB:Bool} {C:bo} {T:Nat→V}
theorem lY {φ:Nat→Row} {O:Nat→Obj} {b:Nat} (h:Own ⟨Y.toTrEnv,after Y μ1 n bB,Y.tok⟩ (quiet μ1 φ O) b):Own Y μ1 b:=by
 rcases h with h| h| ⟨j,_,h1,h2,h3,h4⟩
 ·exact absurd h xK
 ·exact .inr h
 ·exact .inl ⟨j,h1,h2,h3,h4⟩
theorem j8 (h1:bk Y μ1) {U:Nat→Prop} {A:Nat→Option Nat} {φ:Nat→Row} {O:Nat→Obj} {gs:List (Nat×Nat×Nat)} {c:V} {rs:List Nat} {val:Value} {r:Nat} {k:V→Act} {p:V×St}
   (ht:gA Y μf μ1 U A φ O) (hlo: ∀r,(μf.O r).gen≤(O r).gen) (Iz: ∀x ∈ gs,pP μ1 φ O x.1 x.2.1 x.2.2) (he:WD Y μ1 n c rs val) (hU: ∀j ∈ rs,n≤j→ ¬U j) (ah: (dJ bB r gs c k).run C ⟨T,O⟩=some p):
   ∃A' φ' O' c',(k c').run C ⟨T,O'⟩=some p∧gA Y μf μ1 (fun j=>U j∨(bB=true∧j ∈ rs)) A' φ' O'∧eA φ O φ' O'∧(∀r,A r≠none→A' r≠none)∧
     aj ⟨Y.toTrEnv,after Y μ1 n bB,Y.tok⟩ (quiet μ1 φ' O') c' val∧(c.jx=true→c'.aT=true):=by
 have y9:gA Y μf μ1 (fun j=>U j∨(bB=true∧j ∈ rs)) A φ O:=⟨ht.IV,fun r j e=> ⟨(ht.Ep r j e).1,.inl (ht.Ep r j e).2⟩,ht.inj⟩
 cases he with
 | pure hp hv=>
   refine⟨A,φ,O,c,?_,y9,eA.refl _ _,fun _ h=>h,dY (X:=Y) (μ:=μ1) (μ':=quiet μ1 φ O) rfl (fun b=>lY) hp hv,fun hc=> ?_⟩
   ·cases c<;>simp[V.aw] at hp<;>simpa [dJ,V.aw,hp] using ah
   ·cases c<;>simp_all[V.aw,V.jx]
 | @sl j g off len es val hr bq hg hl hv=>
   simp only[dJ] at ah
   split at ah
   · rename_i r' g' Rb
     obtain⟨g1,g2⟩:=Iz _ (yM Rb)
     refine⟨A,φ,O,_,ah,y9,eA.refl _ _,fun _ h=>h,?_,fun _=>rfl⟩
     simp only[aj] at hv ⊢
     obtain⟨a,cap,rfl,q1,q2,q3⟩:=hv
     refine⟨a,cap,rfl,q1,g1,fun e=> ?_⟩
     obtain⟨e1,e2⟩:=g2 e
     simp only[quiet] at e1 e2 ⊢
     rw[e1,e2];exact q3 hg
   ·exact absurd ah au
 | @own j g off len es val hr bq gz hg hl hp hv=>
   simp only[dJ] at ah
   have a0:0 < (μ1.O j).sz:=by simp only[aj] at hv;obtain⟨_,_,_,_,_,hh⟩:=hv;exact(hh hg).1
   obtain⟨q1,q2,q3,q4⟩:=h1.row j es bq a0
   have o9: (aG es off len).length=len:=by simp[aG];omega
   have hwb: (aG es off len).all (aV · (μ1.O j).sz)=true:=by
     simp only[aiY] at q3 ⊢
     exact fun x hx=>q3 x (ajz (ajh hx))
   have ll: (aG es off len).all V.dh=true:=by
     simp only[aiY] at hwb ⊢
     exact fun x hx=> (cr (hwb x hx)).1
   simp only[aj] at hv
   obtain⟨a,cap,rfl,s1,s2,s3⟩:=hv
   obtain⟨-,a1,a2⟩:=s3 hg
   cases hth:bB with
   | true=>
     subst hth
     rw[if_pos rfl] at ah
     simp only[Act.run] at ah
     have dA: (⟨(μ1.φ j).bY,(μ1.φ j).base+off*(μ1.O j).sz,cap⟩:Row).cap=cap:=rfl
     have adR:Lt Y μf μ1 r j ⟨(μ1.φ j).bY,(μ1.φ j).base+off*(μ1.O j).sz,cap⟩ {gen:=(O r).gen+1,sz:=(μ1.O j).sz,arr:=true,fz:=false,es:=some (aG es off len)}:=by
      refine⟨⟨_,rfl,hp,q1,by simp only[o9];exact s1,hwb,?_⟩,⟨by simp[bq],gz⟩,fun hc=> ⟨?_,rfl⟩,.inl ?_,fun hs es' he=> ?_⟩
      ·rcases q4 with q4| ⟨cc,TT,vs,p1,p2,p3,p4⟩
       ·left;simp only;omega
       ·right
        refine⟨cc,TT,(vs.drop off).take len,p1,?_,ag.take _ (ag.drop _ p3),(p4.drop off).take len⟩
        simp only
        rw[←a1,ajo] at p2
        omega
      ·simp only at hc;omega
      ·have:=hlo r;simp only;omega
      ·simp only at he;injection he with he;subst he
       exact xL (hs es bq)
     have hm:eA φ O (da φ r ⟨(μ1.φ j).bY,(μ1.φ j).base+off*(μ1.O j).sz,cap⟩) (da O r {gen:=(O r).gen+1,sz:=(μ1.O j).sz,arr:=true,fz:=false,es:=some (aG es off len)}):=
      eA.da (.inl abW)
     refine⟨_,_,_,_,ah,ht.take (U':=fun i=>U i∨(True∧i ∈ [j])) (hU j abW hr) (fun i hi=> .inl hi) abW adR |> fun t=>by simpa using t,hm,fun r' w9=> ?_,?_,fun _=>rfl⟩
     ·by_cases e:r'=r
      ·subst e;simp[aA]
      ·rw[aX _ _ e];exact w9
     ·simp only[aj,quiet,aA]
      refine⟨a,cap,by rw[o9],by rw[o9];exact s1,aiZ _,fun _=> ⟨a0,abV,a2.imp id fun e=> ?_⟩⟩
      rw[e];simp
   | false=>
     subst hth
     rw[if_neg abW] at ah
     refine⟨A,φ,O,_,ah,y9,eA.refl _ _,fun _ h=>h,?_,fun _=>rfl⟩
     simp only[aj]
     by_cases Js:len=0
     ·exact⟨hp,ll,a,cap,[],by rw[o9],abV,by simp[aG,Js,ag],.inl (by simpa using o9.trans Js)⟩
     ·rcases q4 with q4| ⟨cc,TT,vs,p1,p2,p3,p4⟩
      ·omega
      ·refine⟨hp,ll,a,cap,(vs.drop off).take len,by rw[o9],abV,bP (X:=Y) (μ:=μ1) (μ':=quiet μ1 φ O) rfl (fun b=>lY) hp (ag.take _ (ag.drop _ p3)),
        .inr ⟨_,_,a2.resolve_left abV,?_,(aiV.1 p1).1,(p4.drop off).take len⟩⟩
       rintro(h| h| ⟨j',k0,k1,k2,k3,k4⟩)
       ·exact xK h
       ·exact h1.uz j (by simp[bq]) abV h
       ·have k0':j'<n:=by simpa using k0
        exact h1.inj j' j abV k1 (by simp[bq]) k3 abV k4
theorem gA.lo {U:Nat→Prop} {A:Nat→Option Nat} {φ:Nat→Row} {O:Nat→Obj} (h:gA Y μf μ1 U A φ O) (r:Nat): (μf.O r).gen≤(O r).gen:=by
 cases e:A r with
 | none=>rw[(h.IV r e).1];exact aiZ _
 | some j=>
   rcases(h.Ep r j e).1.gen with h| ⟨h,_⟩ <;>omega
def F3 (Y:Ctx) (μf μ1:Mu) (C:bo) (T:Nat→V) (U:Nat→Prop) (A:Nat→Option Nat) (φ:Nat→Row) (O:Nat→Obj) {α:Type} (k:α→Act) (p:V×St) (G: (Nat→Row)→(Nat→Obj)→α→Prop):Prop:=
 ∃A' φ' O' c',(k c').run C ⟨T,O'⟩=some p∧gA Y μf μ1 U A' φ' O'∧eA φ O φ' O'∧(∀r,A r≠none→A' r≠none)∧G φ' O' c'
theorem gA.more {U U':Nat→Prop} {A:Nat→Option Nat} {φ:Nat→Row} {O:Nat→Obj} (h:gA Y μf μ1 U A φ O) (hU: ∀j,U j→U' j):gA Y μf μ1 U' A φ O:=
 ⟨h.IV,fun r j e=> ⟨(h.Ep r j e).1,hU _ (h.Ep r j e).2⟩,h.inj⟩
theorem wg (h1:bk Y μ1): ∀ {U:Nat→Prop} {A:Nat→Option Nat} {φ:Nat→Row} {O:Nat→Obj} {gs:List (Nat×Nat×Nat)} {cs:List V} {rs:List Nat} {vals:List Value} {r:Nat} {k:List V→Act} {p:V×St},
   gA Y μf μ1 U A φ O→(∀x ∈ gs,pP μ1 φ O x.1 x.2.1 x.2.2)→CV Y μ1 n cs rs vals→(∀j ∈ rs,n≤j→ ¬U j)→distinct rs=true→(fo bB r gs cs k).run C ⟨T,O⟩=some p→
   F3 Y μf μ1 C T (fun j=>U j∨(bB=true∧j ∈ rs)) A φ O k p fun φ' O' cU=>ag ⟨Y.toTrEnv,after Y μ1 n bB,Y.tok⟩ (quiet μ1 φ' O') cU vals∧(cs.all V.jx=true→cU.all V.aT=true):=by
 intro U A φ O gs cs rs vals r k p ht Iz he hU hd ah
 induction he generalizing U A φ O r k with
 | nil=>exact⟨A,φ,O,[],ah,ht.more fun j h=> .inl h,eA.refl _ _,fun _ h=>h,by simp[ag],fun _=>rfl⟩
 | @cons c rs rs' val cs vals h hs ih=>
   obtain⟨d1,d2,d3⟩:=kR hd
   simp only[fo] at ah
   obtain⟨A1,φ1,O1,c1,k1,k2,k3,k4,k5,k6⟩:=j8 h1 ht ht.lo Iz h (fun j hj=>hU j (by simp[hj])) ah
   obtain⟨A2,φ2,O2,cs2,m1,m2,m3,m4,m5,m6⟩:=ih k2 (fun x hx=> (Iz x hx).mono k3) (fun j hj hn hu=>by
    rcases hu with hu| ⟨_,hu⟩
    ·exact hU j (by simp[hj]) hn hu
    ·exact d3 j hj hu) d2 k1
   refine⟨A2,φ2,O2,c1::cs2,m1,m2.more fun j hj=> ?_,k3.trans m3,fun r' h=>m4 r' (k4 r' h),?_,?_⟩
   ·rcases hj with(hj| ⟨e,hj⟩) | ⟨e,hj⟩
    ·exact .inl hj
    ·exact .inr ⟨e,by simp[hj]⟩
    ·exact .inr ⟨e,by simp[hj]⟩
   ·simp only[ag];exact⟨aj.mono (IW m3) k5,m5⟩
   ·simp only[aja,Bool.and_eq_true]
    exact fun hc=> ⟨k6 hc.1,m6 hc.2⟩
theorem j9: ∀ {cs:List V},V.al cs=true→cs.all V.jx=true→cs.all V.aT=true
 | [],_,_=>rfl
 | a::asq,hp,hc=>by
   simp only[V.al,Bool.and_eq_true] at hp
   simp only[aja,Bool.and_eq_true] at hc ⊢
   refine⟨?_,j9 hp.2 hc.2⟩
   have h1:=hp.1
   have h2:=hc.1
   cases a<;>simp_all[V.aw,V.jx]
theorem th (h1:bk Y μ1) {U:Nat→Prop} {A:Nat→Option Nat} {φ:Nat→Row} {O:Nat→Obj} {gs:List (Nat×Nat×Nat)} {c:V} {rs:List Nat} {val:Value} {r:Nat} {k:V→Act} {p:V×St}
  (ht:gA Y μf μ1 U A φ O) (Iz: ∀x ∈ gs,pP μ1 φ O x.1 x.2.1 x.2.2) (he:Ic Y μ1 n c rs val) (hU: ∀j ∈ rs,n≤j→ ¬U j) (hd:distinct rs=true) (ah: (kc bB r gs c k).run C ⟨T,O⟩=some p):
  F3 Y μf μ1 C T (fun j=>U j∨(bB=true∧j ∈ rs)) A φ O k p fun φ' O' c'=>aj ⟨Y.toTrEnv,after Y μ1 n bB,Y.tok⟩ (quiet μ1 φ' O') c' val:=by
 unfold kc at ah
 split at ah
 ·rename_i hp
  refine⟨A,φ,O,c,ah,ht.more fun j h=> .inl h,eA.refl _ _,fun _ h=>h,?_⟩
  cases he with
  | cell h=>
    cases h with
    | pure FB hv=>exact dY (X:=Y) (μ:=μ1) (μ':=quiet μ1 φ O) rfl (fun b=>lY) hp hv
    | sl=>simp[V.aw] at hp
    | own=>simp[V.aw] at hp
  | @agg cs _ vals hc h=>
    have FB:V.al cs=true:=by simpa [V.aw] using hp
    obtain⟨hv,_⟩:=h.aN FB
    simp only[aj]
    exact⟨j9 FB hc,_,rfl,bP (X:=Y) (μ:=μ1) (μ':=quiet μ1 φ O) rfl (fun b=>lY) FB hv⟩
 ·cases he with
  | cell h=>
    cases h with
    | pure hp hv=>rename_i hnp;exact absurd hp hnp
    | sl hr bq hg hl hv=>
      obtain⟨A1,φ1,O1,c1,k1,k2,k3,k4,k5,k6⟩:=j8 h1 ht ht.lo Iz (.sl hr bq hg hl hv) hU ah
      exact⟨A1,φ1,O1,c1,k1,k2,k3,k4,k5⟩
    | own hr bq gz hg hl hp hv=>
      obtain⟨A1,φ1,O1,c1,k1,k2,k3,k4,k5,k6⟩:=j8 h1 ht ht.lo Iz (.own hr bq gz hg hl hp hv) hU ah
      exact⟨A1,φ1,O1,c1,k1,k2,k3,k4,k5⟩
  | agg hc h=>
    obtain⟨A1,φ1,O1,c1,k1,k2,k3,k4,k5,k6⟩:=wg h1 ht Iz h hU hd ah
    refine⟨A1,φ1,O1,_,k1,k2,k3,k4,?_⟩
    simp only[aj]
    exact⟨k6 hc,_,rfl,k5⟩
theorem B6 (h1:bk Y μ1): ∀ {U:Nat→Prop} {A:Nat→Option Nat} {φ:Nat→Row} {O:Nat→Obj} {gs:List (Nat×Nat×Nat)} {cs:List V} {rs:List Nat} {vals:List Value} {r:Nat} {k:List V→Act} {p:V×St},
   gA Y μf μ1 U A φ O→(∀x ∈ gs,pP μ1 φ O x.1 x.2.1 x.2.2)→qK Y μ1 n cs rs vals→(∀j ∈ rs,n≤j→ ¬U j)→distinct rs=true→(kx bB r gs cs k).run C ⟨T,O⟩=some p→
   F3 Y μf μ1 C T (fun j=>U j∨(bB=true∧j ∈ rs)) A φ O k p fun φ' O' cU=>ag ⟨Y.toTrEnv,after Y μ1 n bB,Y.tok⟩ (quiet μ1 φ' O') cU vals:=by
 intro U A φ O gs cs rs vals r k p ht Iz he hU hd ah
 induction he generalizing U A φ O r k with
 | nil=>exact⟨A,φ,O,[],ah,ht.more fun j h=> .inl h,eA.refl _ _,fun _ h=>h,by simp[ag]⟩
 | @cons c rs rs' val cs vals h hs ih=>
   obtain⟨d1,d2,d3⟩:=kR hd
   simp only[kx] at ah
   obtain⟨A1,φ1,O1,c1,k1,k2,k3,k4,k5⟩:=th h1 ht Iz h (fun j hj=>hU j (by simp[hj])) d1 ah
   obtain⟨A2,φ2,O2,cs2,m1,m2,m3,m4,m5⟩:=ih k2 (fun x hx=> (Iz x hx).mono k3) (fun j hj hn hu=>by
    rcases hu with hu| ⟨_,hu⟩
    ·exact hU j (by simp[hj]) hn hu
    ·exact d3 j hj hu) d2 k1
   refine⟨A2,φ2,O2,c1::cs2,m1,m2.more fun j hj=> ?_,k3.trans m3,fun r' h=>m4 r' (k4 r' h),?_⟩
   ·rcases hj with(hj| ⟨e,hj⟩) | ⟨e,hj⟩
    ·exact .inl hj
    ·exact .inr ⟨e,by simp[hj]⟩
    ·exact .inr ⟨e,by simp[hj]⟩
   ·simp only[ag];exact⟨aj.mono (IW m3) k5,m5⟩
theorem qK.aN {cs:List V} {rs:List Nat} {vals:List Value} (h:qK Y μ1 n cs rs vals) (hp:V.al cs=true):ag Y μ1 cs vals∧rs=[]:=by
 induction h with
 | nil=>simp[ag]
 | cons h hs ih=>
   simp only[V.al,Bool.and_eq_true] at hp
   obtain⟨i1,i2⟩:=ih hp.2
   cases h with
   | cell h=>
     cases h with
     | pure FB hv=>simp only[ag];exact⟨⟨hv,i1⟩,by simpa using i2⟩
     | sl=>simp[V.aw] at hp
     | own=>simp[V.aw] at hp
   | @agg cs _ vals hc h=>
     have FB:V.al cs=true:=by simpa [V.aw] using hp.1
     obtain⟨hv,e⟩:=h.aN FB
     subst e
     simp only[ag,aj]
     exact⟨⟨⟨j9 FB hc,_,rfl,hv⟩,i1⟩,by simpa using i2⟩
end
end Go.AM
namespace Go.AM
open Go Go.RowKit
mutual
theorem mL: ∀ {x:V},V.isScalar x=true→V.aw x=true
 | .bool _,_| .int ..,_| .float _,_| .str _,_| .nilp,_| .nilfn,_| .nili,_| .nils,_=>rfl
 | .any,hp| .own ..,hp| .msl ..,hp| .mptr ..,hp| .sl ..,hp| .ptr ..,hp| .lit ..,hp| .eptr ..,hp| .litk ..,hp| .epk ..,hp| .mp ..,hp| .it ..,hp| .mlit ..,hp| .fn ..,hp| .bfn ..,hp| .iface ..,hp=>by simp[V.isScalar] at hp
 | .agg cs,hp=>by simpa [V.aw] using gX (by simpa [V.isScalar] using hp)
 | .tuple cs,hp=>by simpa [V.aw] using gX (by simpa [V.isScalar] using hp)
theorem gX: ∀ {xs:List V},V.bn xs=true→V.al xs=true
 | [],_=>rfl
 | x::xs,hp=>by
   simp only[V.bn,Bool.and_eq_true] at hp
   simp only[V.al,Bool.and_eq_true]
   exact⟨mL hp.1,gX hp.2⟩
end
section
variable {Y:Ctx} {μf μ1:Mu} {n:Nat} {bB:Bool} {C:bo} {T:Nat→V}
def WE (Y:Ctx) (μ:Mu) (n:Nat) (v:V) (rs:List Nat) (val:Value):Prop:=
 Ic Y μ n v rs val∨ ∃vs us,v= .tuple vs∧val= .tuple us∧qK Y μ n vs rs us.toList
theorem dz.adS (h1:bk Y μ1) {T':Nat→V} {v0 v:V} {rs:List Nat} {val:Value} (hv:aj Y μ1 v0 val) (h:dz n ⟨T',μ1.O⟩ v0 v rs):WE Y μ1 n v rs val:=by
 cases h with
 | one h=>exact .inl (nQ h1 hv h)
 | many h=>
   simp only[aj] at hv
   obtain⟨us,rfl,hv⟩:=hv
   exact .inr ⟨_,us,rfl,rfl,mA h1 hv h⟩
theorem WE.pure {v:V} {rs:List Nat} {val:Value} (h:WE Y μ1 n v rs val) (hp:V.aw v=true):aj Y μ1 v val:=by
 rcases h with h| ⟨vs,us,rfl,rfl,h⟩
 ·have hs:qK Y μ1 n [v] (rs++[]) [val]:= .cons h .nil
  have:=(hs.aN (by simp[V.al,hp])).1
  simp only[ag] at this
  exact this.1
 ·simp only[aj]
  exact⟨us,rfl,(h.aN (by simpa [V.aw] using hp)).1⟩
theorem zf (h1:bk Y μ1) {U:Nat→Prop} {A:Nat→Option Nat} {φ:Nat→Row} {O:Nat→Obj} {gs:List (Nat×Nat×Nat)} {c v:V} {rs:List Nat} {val:Value} {r:Nat} {σ':St}
  (ht:gA Y μf μ1 U A φ O) (Iz: ∀x ∈ gs,pP μ1 φ O x.1 x.2.1 x.2.2) (he:WE Y μ1 n c rs val) (hU: ∀j ∈ rs,n≤j→ ¬U j) (hd:distinct rs=true) (ah: (dE bB r gs c .done).run C ⟨T,O⟩=some (v,σ')):
  σ'.T=T∧((V.aw c=true∧v=c∧σ'.O=O∧aj Y μ1 c val)∨ ∃A' φ',gA Y μf μ1 (fun j=>U j∨(bB=true∧j ∈ rs)) A' φ' σ'.O∧eA φ O φ' σ'.O∧(∀r,A r≠none→A' r≠none)∧aj ⟨Y.toTrEnv,after Y μ1 n bB,Y.tok⟩ (quiet μ1 φ' σ'.O) v val):=by
 unfold dE at ah
 split at ah
 ·rename_i hp
  obtain⟨rfl,rfl⟩:=aZ ah
  exact⟨rfl,.inl ⟨hp,rfl,rfl,he.pure hp⟩⟩
 ·rename_i hnp
  split at ah
  ·rename_i vs
   rcases he with he| ⟨vs',us,e,rfl,he⟩
   ·cases he with
    | cell h=>
      cases h with
      | pure hp hv=>exact absurd hp hnp
   ·injection e with e;subst e
    obtain⟨A1,φ1,O1,c1,k1,k2,k3,k4,k5⟩:=B6 h1 ht Iz he hU hd ah
    obtain⟨rfl,rfl⟩:=aZ k1
    refine⟨rfl,.inr ⟨A1,φ1,k2,k3,k4,?_⟩⟩
    simp only[aj]
    exact⟨us,rfl,k5⟩
  ·rename_i hnt
   rcases he with he| ⟨vs',us,e,rfl,he⟩
   ·obtain⟨A1,φ1,O1,c1,k1,k2,k3,k4,k5⟩:=th h1 ht Iz he hU hd ah
    obtain⟨rfl,rfl⟩:=aZ k1
    exact⟨rfl,.inr ⟨A1,φ1,k2,k3,k4,k5⟩⟩
   ·exact absurd e (hnt vs')
end
section
variable {X:Ctx} {μ μ1:Mu} {r0:Nat}
theorem xM {asq:List V} {vals:List Value} {rs:List Nat} {ws:List ed} (ho:bk X μ) (hp:mI X μ r0 0 asq vals rs ws)
  (le:Le ⟨μ.w,fk μ.φ ws,(enter asq).O⟩ μ1) (h1:bk ⟨X.toTrEnv,dg X μ rs ws,X.tok⟩ μ1) {Of:Nat→Obj} (hf:bk X ⟨μ.w,μ.φ,Of⟩) (XZ: ∀w ∈ ws,Of w.r=μ.O w.r)
  {U:Nat→Prop} {A:Nat→Option Nat} {φ:Nat→Row} {O:Nat→Obj} (ht:gA ⟨X.toTrEnv,dg X μ rs ws,X.tok⟩ ⟨μ.w,μ.φ,Of⟩ μ1 U A φ O) (hm:eA μ.φ Of φ O) (hA: ∀w ∈ ws,A w.r≠none)
  (hT: ∀j,U j→((∀es,(μ1.O j).es=some es→V.bn es=true))∨ ∀b,Own X ⟨μ1.w,φ,O⟩ b→Own ⟨X.toTrEnv,dg X μ rs ws,X.tok⟩ μ1 b):
  Le ⟨μ.w,μ.φ,Of⟩ ⟨μ1.w,φ,O⟩∧bk X ⟨μ1.w,φ,O⟩:=by
 have X2: ∀b,(⟨μ.w,fk μ.φ ws,(enter asq).O⟩:Mu).own b→ ∃w ∈ ws,(Of w.r).es.isSome=true∧(Of w.r).fz=false∧(μ.φ w.r).cap≠0∧(μ.φ w.r).bY=b:=fun b hb=>by
  obtain⟨i,r,k1,k2,k3,k4,k5⟩:=xJ hp hb
  have e:=XZ _ k1
  simp only at e
  exact⟨_,k1,by rw[e];exact k2,by rw[e];exact k3,k4,k5⟩
 have adT: ∀j,(μ1.O j).es.isSome=true∧(μ1.O j).fz=false→(μ1.φ j).cap≠0→μ1.own (μ1.φ j).bY:=fun j hl hc=> ⟨j,hl.1,hl.2,hc,rfl⟩
 have kept: ∀r,A r=none→(Of r).es.isSome=true→(μ.φ r).cap≠0→(μ.φ r).bY<μ.w.heap.size∧μ1.w.heap[(μ.φ r).bY]? =μ.w.heap[(μ.φ r).bY]? ∧ ¬μ1.own (μ.φ r).bY:=fun r hr hs hc=>by
  obtain⟨es,he⟩:=ai1.1 hs
  have bl: (μ.φ r).bY<μ.w.heap.size:=gu.bY (μ:=⟨μ.w,μ.φ,Of⟩) (hf.ok r es he) hc
  have ij: ¬ (⟨μ.w,fk μ.φ ws,(enter asq).O⟩:Mu).own (μ.φ r).bY:=fun hb=>by
    obtain⟨w,k1,k2,k3,k4,k5⟩:=X2 _ hb
    have cL:w.r≠r:=fun e=>hA w k1 (e ▸ hr)
    exact hf.inj w.r r cL k2 hs k4 hc k5
  obtain⟨l1,l2⟩:=le.bS _ bl ij
  exact⟨bl,l1,l2⟩
 have ahZ: ∀b,(⟨μ1.w,φ,O⟩:Mu).own b→(⟨μ.w,μ.φ,Of⟩:Mu).own b∨μ1.own b:=fun b hb=>by
  obtain⟨r,k1,k2,k3,k4⟩:=hb
  simp only at k1 k2 k3 k4
  cases e:A r with
  | none=>
    obtain⟨n1,n2⟩:=ht.IV r e
    rw[n1] at k1 k2
    rw[n2] at k3 k4
    exact .inl ⟨r,k1,k2,k3,k4⟩
  | some j=>
    obtain⟨t,_⟩:=ht.Ep r j e
    obtain⟨b1,b2⟩:=t.bY k3
    exact .inr ⟨j,t.live.1,t.live.2,b1,by rw[←b2];exact k4⟩
 have LE:Le ⟨μ.w,μ.φ,Of⟩ ⟨μ1.w,φ,O⟩:=by
  refine⟨le.size,fun b hb ij=> ?_,fun r=> (hm r).1,fun r e=> (hm r).2 e,le.os,le.output,le.tape,le.frozen⟩
  have ah0: ¬ (⟨μ.w,fk μ.φ ws,(enter asq).O⟩:Mu).own b:=fun kK=>by
    obtain⟨w,k1,k2,k3,k4,k5⟩:=X2 _ kK
    exact ij ⟨w.r,k2,k3,k4,k5⟩
  obtain⟨l1,l2⟩:=le.bS b hb ah0
  exact⟨l1,fun h3=> (ahZ b h3).elim ij l2⟩
 refine⟨LE,fun r es bq=> ?_,fun r1 r2 cL e1 e2 e3 e4 e5=> ?_,fun r k1 k2 hb=> ?_,fun b hb=>ai2 (ho.blt b hb) le.size⟩
 ·simp only at bq
  cases e:A r with
  | none=>
    obtain⟨n1,n2⟩:=ht.IV r e
    simp only at n1 n2
    rw[n1] at bq
    exact gu.bS (r:=r) (r':=r) LE (hf.ok r es bq) (by simp[n1]) (by simp[n2]) (fun hc=> (kept r e (by simp[bq]) hc).2.1)
  | some j=>
    obtain⟨t,hu⟩:=ht.Ep r j e
    obtain⟨es',s0,s1,s2,s3,s4,s5⟩:=t.es
    rw[bq] at s0;injection s0 with s0;subst s0
    left
    unfold nv
    simp only
    refine⟨s2,s3,s4,s5.imp id ?_⟩
    rintro⟨c,TT,vs,p1,p2,p3,p4⟩
    refine⟨c,TT,vs,p1,p2,?_,p4⟩
    rcases hT j hu with hs| hs
    ·exact bT (X:=⟨X.toTrEnv,dg X μ rs ws,X.tok⟩) (μ:=μ1) (X':=X) (μ':=⟨μ1.w,φ,O⟩) rfl (t.sc hs _ bq) p3
    ·exact bP (X:=⟨X.toTrEnv,dg X μ rs ws,X.tok⟩) (μ:=μ1) (B:=X.XJ) (μ':=⟨μ1.w,φ,O⟩) rfl hs s1 p3
 ·simp only at e1 e2 e3 e4 e5
  cases a1:A r1 with
  | none=>
    obtain⟨n1,n2⟩:=ht.IV r1 a1
    simp only at n1 n2
    rw[n1] at e1;rw[n2] at e3 e5
    cases a2:A r2 with
    | none=>
      obtain⟨m1,m2⟩:=ht.IV r2 a2
      simp only at m1 m2
      rw[m1] at e2;rw[m2] at e4 e5
      exact hf.inj r1 r2 cL e1 e2 e3 e4 e5
    | some j=>
      obtain⟨t,_⟩:=ht.Ep r2 j a2
      obtain⟨b1,b2⟩:=t.bY e4
      exact(kept r1 a1 e1 e3).2.2 (by rw[e5,b2];exact adT j t.live b1)
  | some j=>
    obtain⟨t,_⟩:=ht.Ep r1 j a1
    obtain⟨b1,b2⟩:=t.bY e3
    cases a2:A r2 with
    | none=>
      obtain⟨m1,m2⟩:=ht.IV r2 a2
      simp only at m1 m2
      rw[m1] at e2;rw[m2] at e4 e5
      exact(kept r2 a2 e2 e4).2.2 (by rw[←e5,b2];exact adT j t.live b1)
    | some j2=>
      obtain⟨t2,_⟩:=ht.Ep r2 j2 a2
      obtain⟨c1,c2⟩:=t2.bY e4
      refine h1.inj j j2 (fun e=>cL (ht.inj r1 r2 j a1 (e ▸ a2))) t.live.1 t2.live.1 b1 c1 ?_
      rw[←b2,←c2];exact e5
 ·simp only at k1 k2 hb
  cases a1:A r with
  | none=>
    obtain⟨n1,n2⟩:=ht.IV r a1
    simp only at n1 n2
    rw[n1] at k1;rw[n2] at k2 hb
    exact hf.uz r k1 k2 hb
  | some j=>
    obtain⟨t,_⟩:=ht.Ep r j a1
    obtain⟨b1,b2⟩:=t.bY k2
    exact h1.uz j t.live.1 b1 (.inl (b2 ▸ hb))
end
end Go.AM
namespace Go.AM
open Go Go.RowKit
section
variable {X:Ctx} {μ μ1:Mu} {r0:Nat} {C:bo} {T:Nat→V}
theorem Lu {r:Nat} {bB:Bool} {v:V} (h:tD r bB v=true): ∃sz xs,v= .own sz xs∧bB=false∧V.bn xs=true:=by
 cases v<;>simp[tD] at h
 rename_i sz xs
 exact⟨sz,xs,rfl,h.2.1,h.2.2⟩
theorem WG {asq:List V} {vals:List Value} {rs:List Nat} {ws:List ed} (ho:bk X μ) (hp:mI X μ r0 0 asq vals rs ws)
   (le:Le ⟨μ.w,fk μ.φ ws,(enter asq).O⟩ μ1) (h1:bk ⟨X.toTrEnv,dg X μ rs ws,X.tok⟩ μ1) {U:Nat→Prop} {A:Nat→Option Nat} {φ:Nat→Row} {O:Nat→Obj}
   (ht:gA ⟨X.toTrEnv,dg X μ rs ws,X.tok⟩ ⟨μ.w,μ.φ,μ.O⟩ μ1 U A φ O) (hA: ∀w ∈ ws,A w.r≠none) {n:Nat} (hU: ∀j,U j→j<n) {sz:Nat} {xs:List V} {refs:List Nat} {val:Value}
   (he:WD ⟨X.toTrEnv,dg X μ rs ws,X.tok⟩ μ1 n (.own sz xs) refs val) (hs:V.bn xs=true):aj X ⟨μ1.w,φ,O⟩ (.lit sz xs) val:=by
 cases he with
 | pure mR _=>simp[V.aw] at mR
 | @own r g off len es _ hr bq gz hg hl mR h=>
   simp only[aj] at h
   obtain⟨a0,cap,rfl,hle,_,bV⟩:=h
   obtain⟨z1,z2,z3⟩:=bV hg
   obtain⟨q1,q2,q3,q4⟩:=h1.row r es bq z1
   have o9: (aG es off len).length=len:=by simp[aG];omega
   simp only[aj]
   refine⟨mR,?_,a0,cap,?_⟩
   ·simp only[aiY] at q3 ⊢
    exact fun x hx=> (cr (q3 x (ajz (ajh hx)))).1
   by_cases cS:cap=0
   ·have:len=0:=abV
    subst this
    refine⟨[],by rw[o9],by rw[o9];omega,?_,.inl ?_⟩
    ·simp[aG,ag]
    ·simp[aG]
   have iw: (μ1.φ r).cap≠0:=abV
   rcases q4 with q4| ⟨cc,TT,vs,p1,p2,p3,p4⟩
   ·exact absurd q4 iw
   have p3':=bT (X:=⟨X.toTrEnv,dg X μ rs ws,X.tok⟩) (μ:=μ1) (X':=X) (μ':=⟨μ1.w,φ,O⟩) rfl hs (ag.take len (ag.drop off p3))
   refine⟨(vs.drop off).take len,by rw[o9],by rw[o9];omega,p3',.inr ⟨_,_,z3.resolve_left cS,?_,(aiV.1 p1).1,(p4.drop off).take len⟩⟩
   have jy:μ1.own (μ1.φ r).bY:=⟨r,by simp[bq],gz,iw,rfl⟩
   rintro(⟨r',e1,e2,e3,e4⟩ | K6)
   ·simp only at e1 e2 e3 e4
    cases e:A r' with
    | none=>
      obtain⟨n1,n2⟩:=ht.IV r' e
      simp only at n1 n2
      rw[n1] at e1 e2
      rw[n2] at e3 e4
      obtain⟨es',fG⟩:=ai1.1 e1
      have bl: (μ.φ r').bY<μ.w.heap.size:=gu.bY (μ:=⟨μ.w,μ.φ,μ.O⟩) (ho.ok r' es' fG) e3
      have ij: ¬ (⟨μ.w,fk μ.φ ws,(enter asq).O⟩:Mu).own (μ.φ r').bY:=fun hb=>by
       obtain⟨i,r2,k1,k2,k3,k4,k5⟩:=xJ hp hb
       have cL:r2≠r':=fun e'=>hA _ k1 (by rw[←e] ;exact congrArg A e')
       exact ho.inj r2 r' cL k2 e1 k4 e3 k5
      exact(le.bS _ bl ij).2 (by rw[e4];exact jy)
    | some j=>
      obtain⟨t,hu⟩:=ht.Ep r' j e
      obtain⟨b1,b2⟩:=t.bY e3
      have hj:=hU j hu
      exact h1.inj j r abV t.live.1 (by simp[bq]) b1 iw (by rw[←b2];exact e4)
   ·exact h1.uz r (by simp[bq]) iw (.inl K6)
theorem Er {asq:List V} {vals:List Value} {rs:List Nat} {ws:List ed} (ho:bk X μ) (hp:mI X μ r0 0 asq vals rs ws) (Cx:apart rs (ws.map (·.r))=true) (hd:distinct (ws.map (·.r))=true)
  (le:Le ⟨μ.w,fk μ.φ ws,(enter asq).O⟩ μ1) (h1:bk ⟨X.toTrEnv,dg X μ rs ws,X.tok⟩ μ1) {res:eZ} {refs:List Nat} {v0:V} {val:Value} {T':Nat→V} (hv:aj ⟨X.toTrEnv,dg X μ rs ws,X.tok⟩ μ1 v0 val)
  (We:dz asq.length ⟨T',μ1.O⟩ v0 res.val refs) (RU:distinct refs=true) (TW:cO μ1.O 0 asq=some res.outs) {bB:Bool} {r:Nat} {v:V} {σ':St}
  (ah: (if (res.val.isScalar || tD r bB res.val) &&res.outs.all (fun o=>V.bn o.2) then eF ws res.outs fun gs=>dE bB r gs res.val .done else dC rs (eF ws res.outs fun gs=>dE bB r gs res.val .done)).run C ⟨T,μ.O⟩=some (v,σ')):
  σ'.T=T∧ ∃φ',aj X ⟨μ1.w,φ',σ'.O⟩ v val∧Le μ ⟨μ1.w,φ',σ'.O⟩∧bk X ⟨μ1.w,φ',σ'.O⟩:=by
 have hR:=We.adS h1 hv
 have hi:=hp.inc
 have dA: ∀w ∈ ws,w.fresh=none→(μ1.O w.i).gen=0→μ1.φ w.i=μ.φ w.r:=fun w hw WH hg=>by
  have Ck: ((enter asq).O w.i).gen=0:=by
   rcases lX hp w.i with h| ⟨_,_,_,_,_,_,h,_⟩ | ⟨_,_,_,h,_⟩
   ·rw[h];rfl
   ·exact h
   ·exact h
  obtain⟨e1,_⟩:=le.row w.i (by rw[hg];exact Ck.symm)
  rw[e1]
  have:=j7 (φ:=μ.φ) hi w hw
  rw[WH] at this
  exact this
 have start: ∀ (Of:Nat→Obj) (S:Nat→Prop),gA ⟨X.toTrEnv,dg X μ rs ws,X.tok⟩ ⟨μ.w,μ.φ,Of⟩ μ1 (fun j=>j< 0∧S j) (fun _=>none) μ.φ Of:=fun Of S=>
  ⟨fun _ _=> ⟨rfl,rfl⟩,fun _ _ e=>by simp at e,fun _ _ _ e=>by simp at e⟩
 split at ah
 ·rename_i hsc
  simp only[Bool.and_eq_true,ajX] at hsc
  obtain⟨iv,mn⟩:=hsc
  have hS: ∀w ∈ ws,∀es,(μ1.O w.i).es=some es→V.bn es=true:=fun w hw es he=>by
   obtain⟨g,es',k1,k2⟩:=TU hp TW w hw
   rw[he] at k1;injection k1 with k1;subst k1
   exact(aiY.1 mn) _ k2
  obtain⟨A,φ,O,gs,k1,k2,k3,k4,k5,k6⟩:=tg (μf:=⟨μ.w,μ.φ,μ.O⟩) h1 dA rfl (fun _ _=>rfl) (S:=fun j=> ∀es,(μ1.O j).es=some es→V.bn es=true) hS hp TW (start μ.O _) (fun w hw=>hw) (fun _ _=>rfl) hd ah
  obtain⟨b1,b2⟩:=xM ho hp le h1 (Of:=μ.O) ho (fun _ _=>rfl) k2 k3 k4 (fun j hj=> .inl hj.2)
  rcases iv with iv| iv
  rotate_left
  ·obtain⟨sz,xs,jF,hth,hsx⟩:=Lu iv
   subst hth
   rw[jF] at k1 hR
   have he:WD ⟨X.toTrEnv,dg X μ rs ws,X.tok⟩ μ1 asq.length (.own sz xs) refs val:=by
    rcases hR with hR| ⟨vs,us,e,_⟩
    · cases hR with
      | cell h=>exact h
    ·exact nomatch e
   have BA:=WG (n:=asq.length) ho hp le h1 k2 k4 (fun j hj=>by have:=hj.1;omega) he hsx
   simp only[dE,kc,dJ,V.aw,ai3,if_false] at k1
   obtain⟨rfl,rfl⟩:=aZ k1
   exact⟨rfl,φ,BA,b1,b2⟩
  have mR:=mL iv
  unfold dE at k1
  rw[if_pos mR] at k1
  obtain⟨rfl,rfl⟩:=aZ k1
  exact⟨rfl,φ,iL (X:=⟨X.toTrEnv,dg X μ rs ws,X.tok⟩) (μ:=μ1) (X':=X) (μ':=⟨μ1.w,φ,O⟩) rfl iv (hR.pure mR),b1,b2⟩
 ·obtain⟨Of,f1,f2,f3,f4,f5⟩:=kQ (X:=X) (w:=μ.w) (φ:=μ.φ) rs ho ah
  have XZ: ∀w ∈ ws,Of w.r=μ.O w.r:=fun w hw=>f4 _ fun hr=>by
   have:=aiY.1 Cx w.r (ai9.2 ⟨w,hw,rfl⟩)
   simp[hr] at this
  obtain⟨A,φ,O,gs,k1,k2,k3,k4,k5,k6⟩:=tg (μf:=⟨μ.w,μ.φ,Of⟩) h1 dA rfl XZ (S:=fun _=>True) (fun _ _=>trivial) hp TW (start Of _) (fun w hw=>hw) (fun _ _=>rfl) hd f1
  obtain⟨hT,jj⟩:=zf h1 k2 k6 hR (fun j _ hn hu=>by have:=hu.1;omega) RU k1
  have adU: ∀ {U:Nat→Prop} {A:Nat→Option Nat} {φ:Nat→Row} {O:Nat→Obj},gA ⟨X.toTrEnv,dg X μ rs ws,X.tok⟩ ⟨μ.w,μ.φ,Of⟩ μ1 U A φ O→(∀w ∈ ws,A w.r≠none)→(∀j,U j→bB=true∨j<asq.length)→
    ∀b,Own X ⟨μ1.w,φ,O⟩ b→after ⟨X.toTrEnv,dg X μ rs ws,X.tok⟩ μ1 asq.length bB b:=by
   intro U A φ O ht hA hU b hb
   rcases hb with⟨r',q1,q2,q3,q4⟩ | hb
   ·simp only at q1 q2 q3 q4
    cases e:A r' with
    | none=>
      obtain⟨n1,n2⟩:=ht.IV r' e
      simp only at n1 n2
      rw[n1] at q1 q2;rw[n2] at q3 q4
      have wH:r' ∉ rs:=fun h=>by rw[f5 r' h] at q2;simp at q2
      have pT:r' ∉ ws.map (·.r):=fun h=>by
         obtain⟨w,hw,e'⟩:=ai9.1 h
         exact hA w hw (by rw[e'];exact e)
      rw[f4 r' wH] at q1 q2
      exact .inl (.inr ⟨r',wH,pT,q1,q2,q3,q4⟩)
    | some j=>
      obtain⟨t,hu⟩:=ht.Ep r' j e
      obtain⟨b1,b2⟩:=t.bY q3
      exact .inr ⟨j,hU j hu,t.live.1,t.live.2,b1,by rw[←b2];exact q4⟩
   ·exact .inl (.inl hb)
  refine⟨hT,?_⟩
  rcases jj with⟨mR,rfl,hO,hvv⟩ | ⟨A',φ',m1,m2,m3,m4⟩
  ·have jy:=adU k2 k4 (fun j hj=> .inr (by have:=hj.1;omega))
   have MX: ∀b,Own X ⟨μ1.w,φ,O⟩ b→Own ⟨X.toTrEnv,dg X μ rs ws,X.tok⟩ μ1 b:=fun b hb=>lY (φ:=φ) (O:=O) (.inr (jy b hb))
   obtain⟨b1,b2⟩:=xM ho hp le h1 (Of:=Of) f3 XZ k2 k3 k4 (fun j hj=> .inr MX)
   rw[hO]
   exact⟨φ,dY (X:=⟨X.toTrEnv,dg X μ rs ws,X.tok⟩) (μ:=μ1) (B:=X.XJ) (μ':=⟨μ1.w,φ,O⟩) rfl MX mR hvv,f2.trans b1,b2⟩
  ·have hA': ∀w ∈ ws,A' w.r≠none:=fun w hw=>m3 _ (k4 w hw)
   have jy:=adU m1 hA' (fun j hj=>hj.elim (fun h=> .inr (by have:=h.1;omega)) fun h=> .inl h.1)
   have MX: ∀b,Own X ⟨μ1.w,φ',σ'.O⟩ b→Own ⟨X.toTrEnv,dg X μ rs ws,X.tok⟩ μ1 b:=fun b hb=>lY (φ:=φ') (O:=σ'.O) (.inr (jy b hb))
   obtain⟨b1,b2⟩:=xM ho hp le h1 (Of:=Of) f3 XZ m1 (k3.trans m2) hA' (fun j hj=> .inr MX)
   refine⟨φ',weaken (X:=⟨X.toTrEnv,after ⟨X.toTrEnv,dg X μ rs ws,X.tok⟩ μ1 asq.length bB,X.tok⟩) (μ:=quiet μ1 φ' σ'.O) (X':=X) (μ':=⟨μ1.w,φ',σ'.O⟩) rfl rfl rfl rfl (fun _=> ⟨rfl,rfl⟩) (fun b hb=> .inr (jy b hb)) m4,f2.trans b1,b2⟩
end
end Go.AM
namespace Go.AM
open Go Go.RowKit
section
variable {X:Ctx} {E:Env} {C:bo} {o:Oper} {a:Go.Act} {T:Nat→V} {μ:Mu} {v:V} {σ':St}
theorem X3 {C:bo} {act:Act}: ∀ {σ σ':St} {v:V},act.run C σ=some (v,σ')→σ'.T=σ.T:=by
 induction act with
 | done u=>intro σ σ' v h;obtain⟨_,rfl⟩:=aZ h;rfl
 | fail=>intro σ σ' v h;exact absurd h au
 | nW t k ih=>intro σ σ' v h;exact ih _ h
 | bR r k ih=>intro σ σ' v h;exact ih _ h
 | bO r o k ih=>intro σ σ' v h;have:=ih h;simpa using this
 | call f asq k ih=>
   intro σ σ' v h
   simp only[Act.run] at h
   split at h
   ·exact ih _ h
   ·simp at h
theorem MM {Y:Ctx} {μ:Mu} {W':World} (hg:μ.w.grownBy W' none) (ho:bk Y μ):Le μ ⟨W',μ.φ,μ.O⟩∧bk Y ⟨W',μ.φ,μ.O⟩:=by
 have hb: ∀k,k<μ.w.heap.size→W'.heap[k]? =μ.w.heap[k]? :=fun k hk=>hg.block k hk abW
 have st:iT Y μ W':=nq hg
 refine⟨⟨hg.size,fun b kK hn=> ⟨hb b kK,hn⟩,fun _=>aiZ _,fun _ _=> ⟨rfl,rfl⟩,hg.os,hg.output,hg.tape,fun ad OO=>by simp only[World.frozen?,hb ad.block OO]⟩,?_⟩
 exact ho.cq st fun r h1 h2=>hb _ (tX ho h1 h2)
def xN (X:TrEnv) (F:FuncId) (h:List V→List V→Option (V×List V)):Prop:= ∀es asq v es',h es asq=some (v,es')→V.isScalar v=true∧V.bn es'=true∧
 ∀ (Y:Ctx) (μ:Mu) (b:Nat) (ents:Array MapEntry) (clock:Nat) (vals:List Value),Y.toTrEnv=X→μ.w.heap[b]? =some (.map ents clock)→gQ ents clock→ag Y μ es (ents.toList.map pU)→ag Y μ asq vals→V.bn asq=true→
  ub X.P ((callFunc F (Value.agg #[.map (some b)]::vals).toArray).run X.P μ.w) fun val w'=>aj Y μ v val∧μ.w.grownBy w' (some b)∧ ∃pQ nT,w'.heap[b]? =some (.map pQ nT)∧gQ pQ nT∧ag Y μ es' (pQ.toList.map pU)
theorem F4 {μ:Mu} {r:Nat} {es es':List V} {v:V} {val:Value} {w':World} (ho:bk X μ) (bq: (μ.O r).es=some es) (bI: (μ.O r).sz=0) (gz: (μ.O r).fz=false) (iv:V.isScalar v=true) (mn:V.bn es'=true)
  (hh: (μ.φ r).cap≠0) {ents:Array MapEntry} {clock:Nat} (hb:μ.w.heap[(μ.φ r).bY]? =some (.map ents clock)) (bp:ag X μ es (ents.toList.map pU)) (cC:gQ ents clock)
  (hv:aj X μ v val) (hg:μ.w.grownBy w' (some (μ.φ r).bY)) {pQ:Array MapEntry} {nT:Nat} (kK:w'.heap[(μ.φ r).bY]? =some (.map pQ nT)) (aah:gQ pQ nT) (MR:ag X μ es' (pQ.toList.map pU)):
  aj X ⟨w',μ.φ,da μ.O r {μ.O r with es:=some es'}⟩ v val∧Le μ ⟨w',μ.φ,da μ.O r {μ.O r with es:=some es'}⟩∧bk X ⟨w',μ.φ,da μ.O r {μ.O r with es:=some es'}⟩:=by
 obtain⟨le1,XP⟩:=gR ho r (es':=es') (ob':= .map pQ nT) bq gz bI hb hh (.inl ⟨ents,clock,rfl,bp,cC⟩) (.inl ⟨pQ,nT,rfl,MR,aah⟩)
 have bl: (μ.φ r).bY<μ.w.heap.size:=(aiV.1 hb).1
 have Kd: ({μ.w with heap:=μ.w.heap.set! (μ.φ r).bY (.map pQ nT)}:World).grownBy w' none:=by
  refine⟨hg.os,hg.tape,hg.output,by simpa using hg.size,fun k hk _=> ?_⟩
  by_cases e:k=(μ.φ r).bY
  ·subst e
   rw[kK];simp[ajY,bl]
  ·have hk':k<μ.w.heap.size:=by simpa using hk
   rw[hg.block k hk' (by simp;omega)]
   simp[ajY,aj4 e]
 obtain⟨K9,XO⟩:=MM (μ:=⟨{μ.w with heap:=μ.w.heap.set! (μ.φ r).bY (.map pQ nT)},μ.φ,da μ.O r {μ.O r with es:=some es'}⟩) Kd XP
 exact⟨iL rfl iv hv,le1.trans K9,XO⟩
theorem sy {h:Rel X T a μ} (O:Nat→Obj): ∀ {xs:List Operand} {ys:List aU},oD X xs=some ys→ag X μ (ys.map (bu ⟨T,O⟩)) (xs.map a.eval)
 | [],ys,e=>by simp[oD] at e;subst e;simp[ag]
 | x::xs,ys,e=>by
   simp only[oD] at e
   split at e
   ·rename_i y ys' h1 h2
    injection e with e;subst e
    simp only[List.map_cons,ag]
    exact⟨aS h h1 O,sy (h:=h) O h2⟩
   ·simp at e
theorem TX (hC: ∀f F asq res,X.fH F=some f→C f asq=some res→bJ X.toTrEnv F asq res) (hM: ∀f F h,E.EG f=some h→X.fH F=some f→xN X.toTrEnv F h) {h:Hints} {dst:Nat} {c:Call} {sG:uC} (hr:Rel X T a μ) (ho:o.op= .call c) (aO:BE X h dst c=some sG) (Ld:sG.j6=true)
  (ah: (aM E sG).run C ⟨T,μ.O⟩=some (v,σ')):σ'.T=T∧ ∀ (next:Go.Act→World→Prop) (Q:Go.Exit→Go.Act→World→Prop),
  (∀val w' φ',aj X ⟨w',φ',σ'.O⟩ v val→Le μ ⟨w',φ',σ'.O⟩→bk X ⟨w',φ',σ'.O⟩→next (a.put o.dst val) w')→o.wp X.P a μ.w next Q:=by
 unfold BE at aO
 split at aO
 ·rename_i f aai
  split at aO
  ·rename_i f' aiP hf has
   injection aO with aO;subst aO
   simp only[aM,bA] at ah
   split at ah
   ·rename_i f0 caps UY
    rw[pA] at ah
    have WH:=aS hr hf μ.O
    rw[UY] at WH
    simp only[aj] at WH
    obtain⟨F,cv,hF,Pq,v7⟩:=WH
    have jb:=(sy (h:=hr) μ.O has).append v7
    simp only[jm] at ah
    obtain⟨asq,rs,ws,h1,hp⟩:=eU hr.bg jb ah
    split at h1
    ·rename_i vU
     simp only[Bool.and_eq_true] at vU
     obtain⟨Cx,hd⟩:=vU
     simp only[Act.run] at h1
     split at h1
     ·rename_i res jj
      have hS:=hC f0 F asq res Pq jj
      obtain⟨e1,e2,e3⟩:=yL hr.bg hp Cx hd
      have hU:=hS (dg X μ rs ws) X.tok μ.w (fk μ.φ ws) _ e1 e2 e3
      have jL: (execOp a.eval o).run X.P μ.w=(callFunc F (List.map a.eval c.args.toList++cv.toList).toArray).run X.P μ.w:=by
       have hea: (c.args.map a.eval)++cv=(List.map a.eval c.args.toList++cv.toList).toArray:=by
        apply ajZ.1;simp
       simp only[execOp,ho,resolve,aai,hF,Deferred.ofValue,Sem.run_bind]
       rw[←hea]
       simp[invoke,Sem.run]
      have key: ∀val w',(∃φ' T' O' v0 refs,Le ⟨μ.w,fk μ.φ ws,(enter asq).O⟩ ⟨w',φ',O'⟩∧bk ⟨X.toTrEnv,dg X μ rs ws,X.tok⟩ ⟨w',φ',O'⟩∧
        aj ⟨X.toTrEnv,dg X μ rs ws,X.tok⟩ ⟨w',φ',O'⟩ v0 val∧dz asq.length ⟨T',O'⟩ v0 res.val refs∧distinct refs=true∧cO O' 0 asq=some res.outs)→
        σ'.T=T∧ ∃φ',aj X ⟨w',φ',σ'.O⟩ v val∧Le μ ⟨w',φ',σ'.O⟩∧bk X ⟨w',φ',σ'.O⟩:=by
       rintro val w' ⟨φ',T',O',v0,refs,k1,k2,k3,k4,k5,k6⟩
       exact Er hr.bg hp Cx hd k1 k2 k3 k4 k5 k6 h1
      have hTT:σ'.T=T:=X3 h1
      refine⟨hTT,fun next Q hn=> ?_⟩
      unfold Oper.wp
      rw[jL]
      exact hU.upon fun val w' hv=>by
       obtain⟨_,φ',q1,q2,q3⟩:=key val w' hv
       exact hn val w' φ' q1 q2 q3
     ·simp at h1
    ·exact absurd h1 au
   ·rename_i f0 caps UY
    rw[pA] at ah
    have WH:=aS hr hf μ.O
    rw[UY] at WH
    simp only[aj] at WH
    obtain⟨F,cv,hF,Pq,v7⟩:=WH
    split at ah
    ·rename_i r' g' hM' hrecv hEx
     have hrv:caps=[.agg [.mp r' g']]:=by
      unfold EL at hrecv
      split at hrecv
      ·simp only[aiT,aiX] at hrecv;obtain⟨rfl,rfl⟩:=hrecv;rfl
      ·simp at hrecv
     subst hrv
     simp only[L1,Act.run] at ah
     split at ah
     ·rename_i es bq
      split at ah
      ·rename_i ah1
       obtain⟨cK,bI,gz,UI,htp⟩:=ah1
       split at ah
       ·rename_i u es' hh
        simp only[Act.run,aiT,aiX] at ah
        obtain⟨rfl,rfl⟩:=ah
        obtain⟨iv,mn,hup⟩:=hM f0 F hM' hEx Pq es _ u es' hh
        have jb:=sy (h:=hr) μ.O has
        obtain⟨cvl,hcv⟩: ∃l,cv.toList=l:=⟨_,rfl⟩
        rw[hcv] at v7
        match cvl,v7 with
        |   [rv],v7=>
            simp only[ag,aj,and_true] at v7
            obtain⟨_,vs,rfl,nn⟩:=v7
            obtain⟨vsl,D1⟩: ∃l,vs.toList=l:=⟨_,rfl⟩
            rw[D1] at nn
            match vsl,nn with
            | [mv],nn=>
              simp only[ag,aj,and_true] at nn
              obtain⟨b,rfl,oO,bV⟩:=nn
              obtain⟨_,rfl⟩:=bV cK
              obtain⟨cS,ents,clock,hm,bp,cC⟩: (μ.φ r').cap≠0∧ ∃ents clock,μ.w.heap[(μ.φ r').bY]? =some (.map ents clock)∧ag X μ es (ents.toList.map pU)∧gQ ents clock:=by
                rcases hr.bg.ents r' es bq bI with h| ⟨_,s,pos,_,rfl⟩ | ⟨mY,rfl⟩
                ·exact h
                ·simp[V.isTuple] at htp
                ·simp[V.isTuple] at htp
              have hU:=hup X μ (μ.φ r').bY ents clock _ rfl hm cC bp jb UI
              have jL: (execOp a.eval o).run X.P μ.w=(callFunc F (Value.agg #[.map (some (μ.φ r').bY)]::List.map a.eval c.args.toList).toArray).run X.P μ.w:=by
                have ah2:vs= #[.map (some (μ.φ r').bY)]:=ajZ.1 (by rw[D1])
                have ah3:cv= #[.agg #[.map (some (μ.φ r').bY)]]:=ajZ.1 (by rw[hcv,ah2])
                have hea:cv++(c.args.map a.eval)=(Value.agg #[.map (some (μ.φ r').bY)]::List.map a.eval c.args.toList).toArray:=by
                 apply ajZ.1;rw[ah3];simp
                simp only[execOp,ho,resolve,aai,hF,Deferred.ofValue,Sem.run_bind]
                rw[←hea]
                simp[invoke,Sem.run]
              refine⟨rfl,fun next Q hn=> ?_⟩
              unfold Oper.wp
              rw[jL]
              exact hU.upon fun val w' hv=>by
                obtain⟨v1,v2,pQ,nT,v3,v4,v5⟩:=hv
                obtain⟨q1,q2,q3⟩:=F4 hr.bg bq bI gz iv mn cS hm bp cC v1 v2 v3 v4 v5
                exact hn val w' μ.φ q1 q2 q3
       ·exact absurd ah au
      ·exact absurd ah au
     ·exact absurd ah au
    ·have jb:=v7.append (sy (h:=hr) μ.O has)
     simp only[jm] at ah
     obtain⟨asq,rs,ws,h1,hp⟩:=eU hr.bg jb ah
     split at h1
     ·rename_i vU
      simp only[Bool.and_eq_true] at vU
      obtain⟨Cx,hd⟩:=vU
      simp only[Act.run] at h1
      split at h1
      ·rename_i res jj
       have hS:=hC f0 F asq res Pq jj
       obtain⟨e1,e2,e3⟩:=yL hr.bg hp Cx hd
       have hU:=hS (dg X μ rs ws) X.tok μ.w (fk μ.φ ws) _ e1 e2 e3
       have jL: (execOp a.eval o).run X.P μ.w=(callFunc F (cv.toList++List.map a.eval c.args.toList).toArray).run X.P μ.w:=by
        have hea:cv++(c.args.map a.eval)=(cv.toList++List.map a.eval c.args.toList).toArray:=by
            apply ajZ.1;simp
        simp only[execOp,ho,resolve,aai,hF,Deferred.ofValue,Sem.run_bind]
        rw[←hea]
        simp[invoke,Sem.run]
       have key: ∀val w',(∃φ' T' O' v0 refs,Le ⟨μ.w,fk μ.φ ws,(enter asq).O⟩ ⟨w',φ',O'⟩∧bk ⟨X.toTrEnv,dg X μ rs ws,X.tok⟩ ⟨w',φ',O'⟩∧
            aj ⟨X.toTrEnv,dg X μ rs ws,X.tok⟩ ⟨w',φ',O'⟩ v0 val∧dz asq.length ⟨T',O'⟩ v0 res.val refs∧distinct refs=true∧cO O' 0 asq=some res.outs)→
            σ'.T=T∧ ∃φ',aj X ⟨w',φ',σ'.O⟩ v val∧Le μ ⟨w',φ',σ'.O⟩∧bk X ⟨w',φ',σ'.O⟩:=by
        rintro val w' ⟨φ',T',O',v0,refs,k1,k2,k3,k4,k5,k6⟩
        exact Er hr.bg hp Cx hd k1 k2 k3 k4 k5 k6 h1
       have hTT:σ'.T=T:=X3 h1
       refine⟨hTT,fun next Q hn=> ?_⟩
       unfold Oper.wp
       rw[jL]
       exact hU.upon fun val w' hv=>by
        obtain⟨_,φ',q1,q2,q3⟩:=key val w' hv
        exact hn val w' φ' q1 q2 q3
      ·simp at h1
     ·exact absurd h1 au
   ·exact absurd ah au
  ·simp at aO
 ·simp at aO
 ·rename_i b hc
  exfalso
  revert aO
  split<;> (try split) <;> (try split) <;> (try split) <;>simp<;> (try (intro e;subst e;simp[uC.j6] at Ld)) <;> (try (intros;subst_vars;simp[uC.j6] at Ld)) <;> (try (rintro rfl;simp[uC.j6] at Ld))
  all_goals (split at Ld<;>first| (simp at Ld;done) | (split at Ld<;>simp at Ld) | (rename_i h9;split at h9<;>simp at h9) | (rename_i h9;unfold Wr at h9; (repeat' split at h9) <;>simp at h9))
theorem F5 {op:BinOp} {t:TypeId} {x y:aU} {sG:uC} (h:MN X op t x y=some sG):sG.j6=false:=by
 unfold MN at h
 repeat' split at h
 all_goals first
  | (injection h with h;subst h;rfl)
  | (simp only[aiU] at h;obtain⟨_,_,rfl⟩:=h;rfl)
  | (simp at h;done)
theorem uu {α:Type} {x:Option α} {f:α→uC} {sG:uC} (h:x.map f=some sG) (hf: ∀a,(f a).j6=false):sG.j6=false:=by
 cases x with
 | none=>simp at h
 | some a=>simp at h;subst h;exact hf a
theorem CW {h:Hints} {dst:Nat} {x:Operand} {sG:uC} (ht:BD X h dst x=some sG):sG.j6=false:=by
 unfold BD at ht
 split at ht
 ·injection ht with ht;subst ht;rfl
 ·split at ht
  ·exact uu ht fun _=>rfl
  ·exact uu ht fun _=>rfl
theorem IX {h:Hints} {dst:Nat} {op:Op} {sG:uC} (hn: ∀c,op≠ .call c) (aO:CO X h dst op=some sG):sG.j6=false:=by
 unfold CO at aO
 split at aO
 all_goals try exact absurd rfl (hn _)
 all_goals
  repeat' split at aO
  all_goals first
   | (injection aO with aO;subst aO;rfl)
   | (injection aO with aO;subst aO;split<;>rfl)
   | exact uu aO fun _=>rfl
   | exact F5 aO
   | exact CW aO
   | (exfalso;simp at aO;done)
theorem Lv (sF: ∀t1 t2 k,X.qM t1=some k→X.qM t2=some k→t1=t2) (hC: ∀f F asq res,X.fH F=some f→C f asq=some res→bJ X.toTrEnv F asq res) (hM: ∀f F h,E.EG f=some h→X.fH F=some f→xN X.toTrEnv F h):rf X E C:=by
 intro h dst o sG a T μ v σ' hr aO ah
 cases hc:sG.j6 with
 | true=>
   cases eK:o.op with
   | call c=>
     rw[eK] at aO
     simp only[CO] at aO
     exact TX hC hM hr eK aO hc ah
   | _=>
     have:=IX (by rw[eK];simp) aO
     rw[this] at hc;simp at hc
 | false=>
   obtain⟨hT,val,w',φ',IY,h1,h2,h3⟩:=TE sF hr aO hc ah
   refine⟨hT,fun next Q hn=> ?_⟩
   unfold Oper.wp
   rcases IY with IY| ⟨IY,rfl⟩
   ·rw[IY];exact hn _ _ _ h1 h2 h3
   ·rw[IY];exact hn _ _ _ h1 h2 h3
end
end Go.AM
namespace Go.AM
open Go Go.RowKit
theorem pD: ∀l:List V,V.erases l=l.map V.erase
 | []=>rfl
 | v::vs=>by simp only[V.erases,List.map_cons,pD vs]
theorem dZ (l:List V): (V.erases l).length=l.length:=by rw[pD];simp
theorem wo (v:V):v.erase.aT=v.aT:=by cases v<;>rfl
theorem IZ (v:V):v.erase.isAgg=v.isAgg:=by cases v<;>rfl
theorem mM (v:V):v.erase.dh=v.dh:=by unfold V.dh;rw[IZ,wo]
theorem I0 (v:V):v.erase.cells=V.erases v.cells:=by cases v<;>rfl
theorem CX (v:V) (sz:Nat):aV v.erase sz=aV v sz:=by unfold aV;rw[I0,dZ,mM]
theorem mN {p:V→Bool} (hp: ∀v,p v.erase=p v): ∀l:List V,(V.erases l).all p=l.all p
 | []=>rfl
 | v::vs=>by simp only[V.erases,aja,hp,mN hp vs]
mutual
theorem fL: ∀v:V,v.erase.aw=v.aw
 | .agg cs=>by simp only[V.erase,V.aw];exact cJ cs
 | .tuple cs=>by simp only[V.erase,V.aw];exact cJ cs
 | .mlit es=>by simp only[V.erase,V.aw];exact cJ es
 | .fn f cs=>by simp only[V.erase,V.aw];exact cJ cs
 | .bfn f cs=>by simp only[V.erase,V.aw];exact cJ cs
 | .iface t v=>by simp only[V.erase,V.aw];exact fL v
 | .litk .. | .epk .. | .lit .. | .own .. | .eptr .. | .msl .. | .mptr .. | .bool _| .int .. | .float _| .str _| .nilp| .nilfn| .nili| .nils| .sl .. | .ptr .. | .mp .. | .it .. | .any=>rfl
theorem cJ: ∀l:List V,V.al (V.erases l)=V.al l
 | []=>rfl
 | v::vs=>by simp only[V.erases,V.al,fL v,cJ vs]
end
theorem nU (es:List V) (off len:Nat):aG (V.erases es) off len=V.erases (aG es off len):=by
 simp only[aG,pD,List.map_take,List.map_drop]
section
variable {X X':Ctx} {μ μ':Mu}
mutual
theorem aj.erase (hX:X'.toTrEnv=X.toTrEnv) (hw:μ'.w=μ.w) (hφ:μ'.φ=μ.φ) (hO: ∀r,(μ'.O r).gen=(μ.O r).gen∧(μ'.O r).sz=(μ.O r).sz) (ho: ∀b,Own X' μ' b→Own X μ b): ∀ {x:V} {v:Value},aj X μ x v→aj X' μ' x.erase v
 | .bool _,_,h| .int ..,_,h| .float _,_,h| .str _,_,h| .nilp,_,h| .nilfn,_,h| .nili,_,h| .nils,_,h=>by simpa [V.erase,aj] using h
 | .any,_,_=>by simp[V.erase,aj]
 | .own ..,_,h| .msl ..,_,h| .mptr ..,_,h=>by simp[aj] at h
 | .agg cs,_,h=>by
   simp only[V.erase,aj] at h ⊢
   obtain⟨h1,vs,rfl,h2⟩:=h
   exact⟨by rw[mN wo];exact h1,vs,rfl,ag.erase hX hw hφ hO ho h2⟩
 | .tuple cs,_,h=>by
   simp only[V.erase,aj] at h ⊢
   obtain⟨vs,rfl,h2⟩:=h
   exact⟨vs,rfl,ag.erase hX hw hφ hO ho h2⟩
 | .bfn f cs,_,h=>by
   simp only[V.erase,aj] at h ⊢
   obtain⟨F,cv,rfl,h1,h2⟩:=h
   exact⟨F,cv,rfl,by rw[hX];exact h1,ag.erase hX hw hφ hO ho h2⟩
 | .fn f cs,_,h=>by
   simp only[V.erase,aj] at h ⊢
   obtain⟨F,cv,rfl,h1,h2⟩:=h
   exact⟨F,cv,rfl,by rw[hX];exact h1,ag.erase hX hw hφ hO ho h2⟩
 | .iface t x,_,h=>by
   simp only[V.erase,aj] at h ⊢
   obtain⟨F,y,rfl,h1,h2⟩:=h
   exact⟨F,y,rfl,by rw[hX];exact h1,aj.erase hX hw hφ hO ho h2⟩
 | .lit sz xs,_,h=>by
   simp only[V.erase,aj] at h ⊢
   obtain⟨h0,jX,a,cap,vs,rfl,h1,h2,h3⟩:=h
   refine⟨by rw[cJ];exact h0,by rw[mN mM];exact jX,a,cap,vs,by rw[dZ],by rw[dZ];exact h1,ag.erase hX hw hφ hO ho h2,h3.imp (fun h=>by rw[h];rfl) ?_⟩
   rintro⟨b,o,rfl,hb,hs,hr⟩
   exact⟨b,o,rfl,fun hh=>hb (ho b hh),by rw[hw];exact hs,by rw[hw];exact hr⟩
 | .litk sz xs,_,h=>by
   simp only[V.erase,aj] at h ⊢
   obtain⟨h0,jX,a,cap,vs,rfl,h1,h2,h3⟩:=h
   refine⟨by rw[cJ];exact h0,by rw[mN mM];exact jX,a,cap,vs,by rw[dZ],by rw[dZ];exact h1,ag.erase hX hw hφ hO ho h2,h3.imp (fun h=>by rw[h];rfl) ?_⟩
   rintro⟨rfl,hb,hs,hr⟩
   exact⟨_,_,rfl,fun hh=>hb (ho _ hh),by rw[hw];exact hs,by rw[hw];exact hr⟩
 | .sl r g off len,_,h=>by
   simp only[V.erase,aj] at h ⊢
   rw[hφ,(hO r).1,(hO r).2];exact h
 | .ptr r g idx off,_,h=>by
   simp only[V.erase,aj] at h ⊢
   rw[hφ,(hO r).1,(hO r).2];exact h
 | .eptr e off,_,h=>by
   simp only[V.erase,aj] at h ⊢
   obtain⟨h0,jX,b,o,sz,x,rfl,hb,hs,h1,hr⟩:=h
   exact⟨by rw[fL];exact h0,by rw[mM];exact jX,b,o,sz,x,rfl,fun hh=>hb (ho b hh),by rw[hw];exact hs,aj.erase hX hw hφ hO ho h1,by rw[hw];exact hr⟩
 | .epk i sz e off,_,h=>by
   simp only[V.erase,aj] at h ⊢
   obtain⟨h0,jX,x,rfl,hb,hs,h1,hr⟩:=h
   exact⟨by rw[fL];exact h0,by rw[mM];exact jX,_,X.tok.2+i*sz,sz,x,rfl,fun hh=>hb (ho _ hh),by rw[hw];exact hs,aj.erase hX hw hφ hO ho h1,by rw[hw];exact hr⟩
 | .mp r g,_,h| .it r g,_,h=>by
   simp only[V.erase,aj] at h ⊢
   rw[hφ,(hO r).1,(hO r).2];exact h
 | .mlit es,_,h=>by
   simp only[V.erase,aj] at h ⊢
   obtain⟨h0,h⟩:=h
   refine⟨by rw[cJ];exact h0,h.imp (fun h=> ⟨by rw[h.1];rfl,h.2⟩) ?_⟩
   rintro⟨a,ents,clock,rfl,hb,hs,h1,h2⟩
   exact⟨a,ents,clock,rfl,fun hh=>hb (ho a hh),by rw[hw];exact hs,by rw[hw];exact h1,ag.erase hX hw hφ hO ho h2⟩
theorem ag.erase (hX:X'.toTrEnv=X.toTrEnv) (hw:μ'.w=μ.w) (hφ:μ'.φ=μ.φ) (hO: ∀r,(μ'.O r).gen=(μ.O r).gen∧(μ'.O r).sz=(μ.O r).sz) (ho: ∀b,Own X' μ' b→Own X μ b): ∀ {xs:List V} {vs:List Value},ag X μ xs vs→ag X' μ' (V.erases xs) vs
 | [],[],_=>by simp[V.erases,ag]
 | [],_::_,h=>by simp[ag] at h
 | _::_,[],h=>by simp[ag] at h
 | x::xs,v::vs,h=>by
   simp only[V.erases,ag] at h ⊢
   exact⟨aj.erase hX hw hφ hO ho h.1,ag.erase hX hw hφ hO ho h.2⟩
end
end
def dU (O:Nat→Obj):Nat→Obj:=fun r=> {O r with es:=(O r).es.map V.erases}
section
variable {X:TrEnv} {B:Nat→Prop} {K K':Nat×Nat} {w:World} {φ:Nat→Row} {O:Nat→Obj}
theorem pE {b:Nat}: (Mu.mk w φ (dU O)).own b↔(Mu.mk w φ O).own b:=by
 simp only[Mu.own,dU,Option.isSome_map]
theorem Et {x:V} {v:Value} (h:aj ⟨X,B,K⟩ ⟨w,φ,O⟩ x v):aj ⟨X,B,K'⟩ ⟨w,φ,dU O⟩ x.erase v:=
 aj.erase (X:=⟨X,B,K⟩) (X':=⟨X,B,K'⟩) (μ:=⟨w,φ,O⟩) (μ':=⟨w,φ,dU O⟩) rfl rfl rfl (fun _=> ⟨rfl,rfl⟩) (fun b hb=>hb.imp pE.1 id) h
theorem uw {xs:List V} {vs:List Value} (h:ag ⟨X,B,K⟩ ⟨w,φ,O⟩ xs vs):ag ⟨X,B,K'⟩ ⟨w,φ,dU O⟩ (V.erases xs) vs:=
 ag.erase (X:=⟨X,B,K⟩) (X':=⟨X,B,K'⟩) (μ:=⟨w,φ,O⟩) (μ':=⟨w,φ,dU O⟩) rfl rfl rfl (fun _=> ⟨rfl,rfl⟩) (fun b hb=>hb.imp pE.1 id) h
theorem yN (h:bk ⟨X,B,K⟩ ⟨w,φ,O⟩):bk ⟨X,B,K'⟩ ⟨w,φ,dU O⟩ where
 ok:=fun r es bq=>by
  simp only[dU,aiU] at bq
  obtain⟨mY,TY,rfl⟩:=bq
  rcases h.ok r mY TY with⟨h1,h2,h3,h4⟩ | ⟨h1,h2,ob,h3,h4⟩
  ·refine .inl ⟨h1,by rw[dZ];exact h2,by rw[mN (fun v=>CX v _)];exact h3,h4.imp id ?_⟩
   rintro⟨c,T,vs,k1,k2,k3,k4⟩
   exact⟨c,T,vs,k1,k2,uw k3,k4⟩
  ·refine .inr ⟨h1,h2,ob,h3,?_⟩
   rcases h4 with⟨ents,clock,k1,k2,k3⟩ | ⟨s,pos,k1,k2⟩ | ⟨mo,since,Uv,k1,k2,k3⟩
   ·exact .inl ⟨ents,clock,k1,uw k2,k3⟩
   ·exact .inr (.inl ⟨s,pos,k1,by rw[k2];rfl⟩)
   ·refine .inr (.inr ⟨mo,since,V.erases Uv,k1,by rw[k2];rfl,k3.imp (fun h=> ⟨h.1,by rw[h.2];rfl⟩) ?_⟩)
    rintro⟨m,ents,l1,l2,l3,l4,l5,l6⟩
    exact⟨m,ents,l1,fun hh=>l2 (hh.imp pE.1 id),l3,l4,l5,uw l6⟩
 inj:=fun r r' cL h1 h2 h3 h4=>h.inj r r' cL (by simpa [dU] using h1) (by simpa [dU] using h2) h3 h4
 uz:=fun r h1 h2=>h.uz r (by simpa [dU] using h1) h2
 blt:=h.blt
theorem oJ {n:Nat} {T T':Nat→V} {c c':V} {rs:List Nat} (h:cG n ⟨T,O⟩ c=some (c',rs)):cG n ⟨T',dU O⟩ c.erase=some (c'.erase,rs):=by
 have other: (∀r g off len,c≠ .sl r g off len)→c.aw=true→c'=c∧rs=[]→cG n ⟨T',dU O⟩ c.erase=some (c'.erase,rs):=by
  rintro hns hp ⟨rfl,rfl⟩
  have FB:c'.erase.aw=true:=by rw[fL];exact hp
  cases c'<;>first| exact absurd rfl (hns _ _ _ _) | (simp only[V.erase] at FB ⊢;simp only[cG,FB,if_true])
 unfold cG at h
 split at h
 ·rename_i r g off len
  simp only[V.erase,cG]
  split at h
  ·rename_i es bq
   have fG: (dU O r).es=some (V.erases es):=by
    have: (O r).es=some es:=bq
    simp only[dU,this,ai4]
   simp only[fG]
   split at h
   ·rename_i hc
    have EC: (dU O r).gen=g∧off+len≤(V.erases es).length∧(dU O r).arr=true∧V.al (aG (V.erases es) off len)=true:=
     ⟨hc.1,by rw[dZ];exact hc.2.1,hc.2.2.1,by rw[nU,cJ];exact hc.2.2.2⟩
    rw[if_pos EC]
    split at h
    ·rename_i hr
     rw[if_pos hr]
     simp only[aiT,aiX] at h
     obtain⟨rfl,rfl⟩:=h;rfl
    ·rename_i hr
     rw[if_neg hr]
     split at h
     ·rename_i hf
      rw[if_pos (show (dU O r).fz=true from hf)]
      simp only[aiT,aiX] at h
      obtain⟨rfl,rfl⟩:=h
      simp only[V.erase,nU]
      rfl
     ·rename_i hf
      rw[if_neg (show ¬ (dU O r).fz=true from hf)]
      simp only[aiT,aiX] at h
      obtain⟨rfl,rfl⟩:=h
      simp only[V.erase,nU]
      rfl
   ·simp at h
  ·simp at h
 ·rename_i hns
  split at h
  ·rename_i hp
   simp only[aiT,aiX] at h
   obtain⟨rfl,rfl⟩:=h
   exact other (fun r g off len e=>hns r g off len e) hp ⟨rfl,rfl⟩
  ·simp at h
theorem jC {n:Nat} {T T':Nat→V}: ∀ {cs cU:List V} {rs:List Nat},cm n ⟨T,O⟩ cs=some (cU,rs)→cm n ⟨T',dU O⟩ (V.erases cs)=some (V.erases cU,rs)
 | [],cU,rs,h=>by
   simp only[cm,aiT,aiX] at h
   obtain⟨rfl,rfl⟩:=h;rfl
 | c::cs,cU,rs,h=>by
   simp only[cm] at h
   split at h
   ·rename_i c1 r1 cs1 rs1 h1 h2
    simp only[aiT,aiX] at h
    obtain⟨rfl,rfl⟩:=h
    simp only[V.erases,cm,oJ (T':=T') h1,jC h2]
   ·simp at h
theorem tj {n:Nat} {T T':Nat→V} {v v':V} {rs:List Nat} (h:dQ n ⟨T,O⟩ v=some (v',rs)):dQ n ⟨T',dU O⟩ v.erase=some (v'.erase,rs):=by
 unfold dQ at h
 split at h
 ·rename_i hp
  simp only[aiT,aiX] at h
  obtain⟨rfl,rfl⟩:=h
  simp only[dQ,fL,hp,if_true]
 ·rename_i hp
  have FB: ¬v.erase.aw=true:=by rw[fL];exact hp
  unfold dQ
  rw[if_neg FB]
  split at h
  ·rename_i cs
   split at h
   ·rename_i cs1 rs1 h1
    simp only[aiT,aiX] at h
    obtain⟨rfl,rfl⟩:=h
    simp only[V.erase,jC (T':=T') h1]
   ·simp at h
  ·rename_i f cs
   split at h
   ·rename_i cs1 rs1 h1
    split at h
    ·rename_i hc
     simp only[aiT,aiX] at h
     obtain⟨rfl,rfl⟩:=h
     simp only[V.erase,jC (T':=T') h1,cJ,hc,if_true]
    ·simp at h
   ·simp at h
  ·rename_i h1 h2
   have:=oJ (T':=T') h
   cases v<;>first| exact absurd rfl (h1 _) | exact absurd rfl (h2 _ _) | exact this
theorem rA {n:Nat} {T T':Nat→V}: ∀ {cs cU:List V} {rs:List Nat},dv n ⟨T,O⟩ cs=some (cU,rs)→dv n ⟨T',dU O⟩ (V.erases cs)=some (V.erases cU,rs)
 | [],cU,rs,h=>by
   simp only[dv,aiT,aiX] at h
   obtain⟨rfl,rfl⟩:=h;rfl
 | c::cs,cU,rs,h=>by
   simp only[dv] at h
   split at h
   ·rename_i c1 r1 cs1 rs1 h1 h2
    simp only[aiT,aiX] at h
    obtain⟨rfl,rfl⟩:=h
    simp only[V.erases,dv,tj (T':=T') h1,rA h2]
   ·simp at h
theorem dz.erase {n:Nat} {T T':Nat→V} {v0 v:V} {rs:List Nat} (h:dz n ⟨T,O⟩ v0 v rs):dz n ⟨T',dU O⟩ v0.erase v.erase rs:=by
 cases h with
 | one h=>exact .one (tj h)
 | many h=>simp only[V.erase];exact .many (rA h)
end
theorem Lw {v:V} (h:v.aw=true): (Ae v).aw=true:=by
 unfold Ae;split
 ·rfl
 ·exact h
theorem wq (v:V): (Ae v).aT=v.aT:=by
 unfold Ae;split<;>rfl
section
variable {X:TrEnv} {B:Nat→Prop} {K:Nat×Nat} {μ:Mu}
theorem Ps (c:Nat) {x:V} {v:Value} (hx: ∀K,aj ⟨X,B,K⟩ μ x v): ∃K,aj ⟨X,B,K⟩ μ (GI c x) v:=by
 unfold GI
 split
 ·rename_i cs
  by_cases hc: ∃sz xs,cs[c]? =some (.lit sz xs)∧xs≠[]
  ·obtain⟨sz,xs,oN,cL⟩:=hc
   obtain⟨h1,vs,rfl,h2⟩:cs.all V.aT=true∧ ∃vs,v= .agg vs∧ag ⟨X,B,(0,0)⟩ μ cs vs.toList:=by have:=hx (0,0);simpa only[aj] using this
   obtain⟨u,hu,bp⟩:=h2.get oN
   simp only[aj] at bp
   obtain⟨k0,k0',a,cap,us,rfl,k1,k2,k3⟩:=bp
   obtain⟨b,o,rfl,k4,k5,k6⟩:=k3.resolve_left cL
   refine⟨(b,o),?_⟩
   have NF:ag ⟨X,B,(b,o)⟩ μ cs vs.toList:=by
    have:=hx (b,o)
    simp only[aj] at this
    obtain⟨_,vs',e,h⟩:=this
    injection e with e;subst e;exact h
   simp only[aj]
   refine⟨?_,vs,rfl,?_⟩
   ·rw[aiY] at h1 ⊢
    intro y hy
    obtain⟨i,hi⟩:=aji.1 hy
    rw[ajr,akc,aiU] at hi
    obtain⟨z,hz,rfl⟩:=hi
    have UK:=h1 z (List.mem_of_getElem? hz)
    split
    ·rw[wq];exact UK
    ·exact UK
   ·refine ag.BG (by rw[List.length_modify];exact NF.length) fun i y u' hy Dn=> ?_
    rw[ajr,akc,aiU] at hy
    obtain⟨z,hz,rfl⟩:=hy
    obtain⟨u2,WI,pT⟩:=NF.get hz
    rw[Dn] at WI;injection WI with WI;subst WI
    by_cases XN:c=i
    ·subst XN
     rw[if_pos rfl]
     rw[oN] at hz;injection hz with hz;subst hz
     rw[hu] at Dn;injection Dn with Dn;subst Dn
     simp only[Ae,aj]
     simp only[aj] at pT
     obtain⟨_,_,a',OV,UJ,e,_,m2,m3⟩:=pT
     injection e with e1 e2 e3
     subst e1;subst e3
     refine⟨k0,k0',_,cap,UJ,rfl,k1,m2,.inr ⟨rfl,k4,k5,?_⟩⟩
     rcases m3 with m3| ⟨b',o',e,_,_,m⟩
     ·exact absurd m3 cL
     ·simp only[aiT,Addr.mk.injEq,and_true] at e
      obtain⟨rfl,rfl⟩:=e
      exact m
    ·rw[if_neg XN];exact pT
  ·refine⟨(0,0),?_⟩
   have h0:=hx (0,0)
   simp only[aj] at h0 ⊢
   obtain⟨h1,vs,rfl,h2⟩:=h0
   refine⟨?_,vs,rfl,?_⟩
   ·rw[aiY] at h1 ⊢
    intro y hy
    obtain⟨i,hi⟩:=aji.1 hy
    rw[ajr,akc,aiU] at hi
    obtain⟨z,hz,rfl⟩:=hi
    have UK:=h1 z (List.mem_of_getElem? hz)
    split
    ·rw[wq];exact UK
    ·exact UK
   ·refine ag.BG (by rw[List.length_modify];exact h2.length) fun i y u' hy Dn=> ?_
    rw[ajr,akc,aiU] at hy
    obtain⟨z,hz,rfl⟩:=hy
    obtain⟨u2,WI,pT⟩:=h2.get hz
    rw[Dn] at WI;injection WI with WI;subst WI
    by_cases XN:c=i
    ·subst XN
     rw[if_pos rfl]
     unfold Ae
     split
     ·rename_i sz xs
      have LN:xs=[]:=akQ fun cL=>hc ⟨sz,xs,hz,cL⟩
      subst LN
      simp only[aj] at pT ⊢
      obtain⟨k0,k0',a,cap,us,rfl,k1,k2,_⟩:=pT
      exact⟨k0,k0',a,cap,us,rfl,k1,k2,.inl trivial⟩
     ·exact pT
    ·rw[if_neg XN];exact pT
 ·exact⟨(0,0),hx (0,0)⟩
theorem iM (p:Nat×Nat) (args:List V): (cH p args).length=args.length:=by simp[cH,dZ]
theorem CY {p:Nat×Nat} {args:List V} (h:V.al args=true):V.al (cH p args)=true:=by
 refine tu fun x hx=> ?_
 obtain⟨i,hi⟩:=aji.1 hx
 have he:V.al (V.erases args)=true:=by rw[cJ];exact h
 rw[cH,ajr,akc,aiU] at hi
 obtain⟨z,hz,rfl⟩:=hi
 have UK:=kb he (List.mem_of_getElem? hz)
 split
 ·unfold GI
  split
  ·rename_i cs
   simp only[V.aw] at UK ⊢
   refine tu fun y hy=> ?_
   obtain⟨j,hj⟩:=aji.1 hy
   rw[ajr,akc,aiU] at hj
   obtain⟨u,hu,rfl⟩:=hj
   have Dn:=kb UK (List.mem_of_getElem? hu)
   split
   ·exact Lw Dn
   ·exact Dn
  ·exact UK
 ·exact UK
theorem Eu {F:FuncId} {p:Nat×Nat} {args:List V} {res:eZ} (hp:V.al args=true) (h:bJ X F (cH p args) res):bJ X F args ⟨res.val.erase,[]⟩:=by
 intro B K w φ0 vals D1 hv ho
 have hpm:=CY (p:=p) hp
 have hO: (enter args).O=fun _=>bH:=by rw[ef hp]
 have hOm: (enter (cH p args)).O=fun _=>bH:=by rw[ef hpm]
 have hT: ∀t a,args[t]? =some a→(enter args).T t=a:=fun t a ha=>by rw[ef hp];simp[List.getD,ha]
 have hTm: ∀t a,(cH p args)[t]? =some a→(enter (cH p args)).T t=a:=fun t a ha=>by rw[ef hpm];simp[List.getD,ha]
 have each: ∀K' t (x:V) v,(V.erases args)[t]? =some x→vals[t]? =some v→aj ⟨X,B,K'⟩ ⟨w,φ0,fun _=>bH⟩ x v:=fun K' t x v hx zB=>by
  rw[pD,List.getElem?_map,aiU] at hx
  obtain⟨y,hy,rfl⟩:=hx
  have:=hv t v zB
  rw[hT t y hy,hO] at this
  have:=Et (K':=K') this
  exact this
 obtain⟨K',hK⟩: ∃K',∀x v,(V.erases args)[p.1]? =some x→vals[p.1]? =some v→aj ⟨X,B,K'⟩ ⟨w,φ0,fun _=>bH⟩ (GI p.2 x) v:=by
  cases hx: (V.erases args)[p.1]? with
  | none=>exact⟨(0,0),fun x v h1=>by simp at h1⟩
  | some x=>
    cases hu:vals[p.1]? with
    | none=>exact⟨(0,0),fun x v _ h1=>by simp at h1⟩
    | some u=>
      obtain⟨K',hK⟩:=Ps (X:=X) (B:=B) (μ:=⟨w,φ0,fun _=>bH⟩) p.2 (fun K'=>each K' p.1 x u hx hu)
      exact⟨K',fun y v h1 h2=>by injection h1 with h1;injection h2 with h2;subst h1;subst h2;exact hK⟩
 have hU:=h B K' w φ0 vals (by rw[iM];exact D1) (fun t v zB=>by
  rw[hOm]
  have bl:t< (cH p args).length:=by rw[iM,←D1];exact(aiS.1 zB).1
  obtain⟨y,eS⟩: ∃y,(cH p args)[t]? =some y:=⟨_,aiW bl⟩
  rw[hTm t _ eS]
  have Kd:=eS
  simp only[cH] at Kd
  rw[ajr,akc,aiU] at Kd
  obtain⟨z,hz,Co⟩:=Kd
  rw[←Co]
  split
  · rename_i e
    subst e
    exact hK z v hz zB
  ·exact each K' t z v hz zB) (by
  rw[hOm]
  rw[hO] at ho
  have:=yN (K':=K') ho
  exact this)
 rw[hOm] at hU
 rw[hO]
 have post: ∀val w',(∃φ' T' O' v0 refs,Le ⟨w,φ0,fun _=>bH⟩ ⟨w',φ',O'⟩∧bk ⟨X,B,K'⟩ ⟨w',φ',O'⟩∧
    aj ⟨X,B,K'⟩ ⟨w',φ',O'⟩ v0 val∧dz (cH p args).length ⟨T',O'⟩ v0 res.val refs∧distinct refs=true∧cO O' 0 (cH p args)=some res.outs)→
    ∃φ' T' O' v0 refs,Le ⟨w,φ0,fun _=>bH⟩ ⟨w',φ',O'⟩∧bk ⟨X,B,K⟩ ⟨w',φ',O'⟩∧
    aj ⟨X,B,K⟩ ⟨w',φ',O'⟩ v0 val∧dz args.length ⟨T',O'⟩ v0 (eZ.mk res.val.erase []).val refs∧distinct refs=true∧cO O' 0 args=some (eZ.mk res.val.erase []).outs:=by
  rintro val w' ⟨φ',T',O',v0,refs,k1,k2,k3,k4,k5,k6⟩
  rw[iM] at k4
  refine⟨φ',T',dU O',v0.erase,refs,?_,yN k2,Et k3,k4.erase,k5,kr hp⟩
  exact⟨k1.size,fun b hb hn=> ⟨(k1.bS b hb hn).1,fun h'=> (k1.bS b hb hn).2 (pE.1 h')⟩,k1.gen,k1.row,k1.os,k1.output,k1.tape,k1.frozen⟩
 unfold ub at hU ⊢
 split at hU
 ·exact post _ _ hU
 ·refine Calls.mono hU fun e w' he=> ?_
  cases e with
  | returned v=>exact post _ _ he
  | panicked c=>exact he.elim
  | outgrown=>exact he.elim
 ·exact hU.elim
end
end Go.AM
namespace Go.AM
open Go Go.RowKit
structure xO (X:TrEnv) (E:Env):Prop where
 inj: ∀t1 t2 k,X.qM t1=some k→X.qM t2=some k→t1=t2
 mixed:X.P.follows .mixedOrders=true
 fn: ∀f af F,E.fn f=some af→X.fH F=some f→ ∃fn h c,X.P.funcs[F]? =some fn∧(fn.name== "runtime.NumGoroutine")=false∧fn.body=some c∧EP X h fn=some af∧af.nparams≤fn.ntmps
 ext: ∀f asq res F,E.ext f asq=some res→X.fH F=some f→bJ X F asq res
 iter: ∀g F caps xs,E.iter g caps=some xs→X.fH F=some g→ ∀ (B:Nat→Prop) (K:Nat×Nat) (μ:Mu) (lb:Array Value),ag ⟨X,B,K⟩ μ caps lb.toList→bk ⟨X,B,K⟩ μ→zG ⟨X,B,K⟩ μ F lb xs
 EG: ∀f F h,E.EG f=some h→X.fH F=some f→xN X F h
 hyb: ∀f h F,E.hyb f=some h→X.fH F=some f→ ∀C:bo,(∀f F asq res,X.fH F=some f→C f asq=some res→bJ X F asq res)→ ∀asq res,h C asq=some res→bJ X F asq res
section
variable {X:Ctx} {T:Nat→V} {a:Go.Act} {μ:Mu}
theorem F6 (hr:Rel X T a μ) {r:ResultVar} {r':uA} (aO:vM X r=some r') {v:V} (h:ml ⟨T,μ.O⟩ r'=some v):
   ∃val,((match r with| .tmp t=>pure (a.tmps.getD t undef) | .cell c t=>do loadVar t (←asAddr (a.tmps.getD c undef)):Sem Value)).run X.P μ.w= .ok val μ.w∧aj X μ v val:=by
 cases r with
 | tmp t=>
   simp[vM] at aO;subst aO
   simp only[ml,aiT] at h;subst h
   exact⟨_,rfl,hr.tmps t⟩
 | cell c t=>
   simp only[vM] at aO
   split at aO
   ·rename_i g sz hg hn
    injection aO with aO;subst aO
    simp only[ml] at h
    split at h
    ·rename_i r gn idx off e
     split at h
     ·rename_i es bq
      split at h
      ·rename_i cK
       split at h
       ·rename_i el sO
        have hx:=hr.tmps c
        rw[e] at hx
        simp only[aj] at hx
        obtain⟨p,XL,_,bV⟩:=hx
        obtain⟨IU,bV⟩:=bV cK
        obtain⟨xv,sE,_,kC⟩:=Iw hr.bg bq sO IU
        obtain⟨val,hl,bp⟩:=si sE h hg hn kC
        refine⟨val,?_,bp⟩
        rw[bV] at XL
        show (do loadVar t (←asAddr (a.tmps.getD c undef)):Sem Value).run X.P μ.w=_
        rw[XL]
        simpa [Sem.run_bind,asAddr,Sem.run] using hl
       ·simp at h
      ·simp at h
     ·simp at h
    ·simp at h
   ·simp at aO
theorem wv (hr:Rel X T a μ): ∀ {rs:List ResultVar} {rs':List uA} {vs:List V},j0 X rs=some rs'→eC ⟨T,μ.O⟩ rs'=some vs→
   ∃vals,(rs.mapM (fun r=> (match r with| .tmp t=>pure (a.tmps.getD t undef) | .cell c t=>do loadVar t (←asAddr (a.tmps.getD c undef)):Sem Value))).run X.P μ.w= .ok vals μ.w∧ag X μ vs vals
 | [],rs',vs,h1,h2=>by
   simp[j0] at h1;subst h1
   simp[eC] at h2;subst h2
   exact⟨[],by simp[Sem.run],by simp[ag]⟩
 | r::rs,rs',vs,h1,h2=>by
   simp only[j0] at h1
   split at h1
   ·rename_i r1 rs1 k1 k2
    injection h1 with h1;subst h1
    simp only[eC] at h2
    split at h2
    ·rename_i v vs1 m1 m2
     injection h2 with h2;subst h2
     obtain⟨val,n1,n2⟩:=F6 hr k1 m1
     obtain⟨vals,p1,p2⟩:=wv hr k2 m2
     refine⟨val::vals,?_,by simp only[ag];exact⟨n2,p2⟩⟩
     simp only[List.mapM_cons,Sem.run_bind,n1,Result.andThen,p1]
     rfl
    ·simp at h2
   ·simp at h1
theorem sW (hr:Rel X T a μ) {fn:Func} {rs':List uA} {vs:List V} (h1:j0 X fn.results.toList=some rs') (h2:eC ⟨T,μ.O⟩ rs'=some vs):
  ∃vals,(results fn a.tmps).run X.P μ.w= .ok (match vals with| [v]=>v| vs=> .tuple vs.toArray) μ.w∧ag X μ vs vals:=by
 obtain⟨vals,k1,k2⟩:=wv hr h1 h2
 refine⟨vals,?_,k2⟩
 have hm: (fn.results.mapM (fun r=> (match r with| .tmp t=>pure (a.tmps.getD t undef) | .cell c t=>do loadVar t (←asAddr (a.tmps.getD c undef)):Sem Value))).run X.P μ.w= .ok vals.toArray μ.w:=by
  rw[Array.mapM_eq_mapM_toList]
  show Sem.run X.P (_ >>=fun l=>pure (List.toArray l)) _=_
  rw[Sem.run_bind,k1]
  rfl
 unfold results
 rw[Sem.run_bind]
 refine(congrArg (fun r=>Result.andThen r (fun vs w'=>Sem.run X.P (pure (if h:vs.size=1 then vs[0] else Value.tuple vs)) w')) hm).trans ?_
 match vals with
 | []=>rfl
 | [v]=>rfl
 | _::_::_=>rfl
end
section
variable {X:TrEnv} {E:Env}
theorem Pu {af:aQ} {args:List V} {σ:St} {res:eZ} (h:leave af args σ=some res):
  ∃vs,eC σ af.results=some vs∧cO σ.O 0 args=some res.outs∧ ∃refs,distinct refs=true∧
   ∀v0,v0=(match vs with| [v]=>v| vs=> .tuple vs)→dz args.length σ v0 res.val refs:=by
 unfold leave at h
 split at h
 ·rename_i vs outs h1 h2
  refine⟨vs,h1,?_⟩
  split at h
  ·rename_i v rs hx
   split at h
   ·rename_i hd
    injection h with h;subst h
    refine⟨h2,rs,hd,?_⟩
    rintro v0 rfl
    match vs,hx with
    | [u],hx=>
      simp only[dv] at hx
      split at hx
      · rename_i c' r cU rs' k1 k2
        simp only[aiT,aiX,akC] at hx k2
        obtain⟨⟨rfl,rfl⟩,rfl⟩:=hx
        obtain⟨_,rfl⟩:=k2
        simpa using dz.one k1
      ·simp at hx
    | [],hx=>simp[dv] at hx
    | _::_::_,hx=>
      simp only[dv] at hx
      split at hx
      · rename_i k1 k2
        split at k2
        ·simp only[aiT,aiX] at hx k2
         obtain⟨e1,_⟩:=k2
         subst e1
         simp at hx
        ·simp at k2
      ·simp at hx
   ·simp at h
  ·rename_i vs' rs hns hx
   split at h
   ·rename_i hd
    injection h with h;subst h
    refine⟨h2,rs,hd,?_⟩
    rintro v0 rfl
    match vs,hx with
    | [u],hx=>
      exfalso
      simp only[dv] at hx
      split at hx
      · rename_i c' r cU rs' k1 k2
        simp only[aiT,aiX] at hx k2
        obtain⟨rfl,rfl⟩:=hx
        obtain⟨rfl,_⟩:=k2
        exact hns _ rfl
      ·simp at hx
    | [],hx=>exact .many hx
    | _::_::_,hx=>exact .many hx
   ·simp at h
  ·simp at h
 ·simp at h
theorem qN {P:Program} {fn:Func} {tmps:Array Value} {R:Ending→World→Prop} {n:Fp} (Pw:World→Prop) (jt: ∀w D,n.fl≤D→w.heap[D]? =some (.deferred (some []))→Pw w→Pw (w.putObj D (.deferred none)))
   (hR: ∀w,Pw w→ ∃v,(results fn tmps).run P w= .ok v w∧R (.returned v) w) {ds:List Deferred} {w:World} (hm:Marks n w ds) (hw:Pw w):LeavesInM (Fr none) 0 P fn tmps R ds .returning w:=by
 obtain⟨_,Ds,rfl,Pl,hDs⟩:=hm
 revert w
 induction Ds with
 | nil=>intro w hw _ _;exact hR w hw
 | cons D Ds ih=>
   intro w hw hf hm
   obtain⟨h1,h2⟩:=hm D abW
   rw[akE] at Pl
   refine⟨abW,.inl ⟨D,w.putObj D (.deferred none),rfl,run_takeDeferred h2,?_⟩⟩
   refine ih Pl.2 (jt w D h1 h2 hw) ⟨by simpa [World.putObj] using hf.1,fun l hl=> ?_⟩ fun D' hD'=> ⟨(hm D' (by simp[hD'])).1,?_⟩
   ·obtain⟨L,k⟩:=hf.2 l hl
    exact⟨L,(World.putObj_heap_other (fun e=>by rw[e,h2] at k;simp at k)).trans k⟩
   ·rw[World.putObj_heap_other (fun e=>Pl.1 (by rw[←e];exact hD'))]
    exact(hm D' (by simp[hD'])).2
theorem pF (hE:xO X E) {n:Nat} (hH: ∀m,m<n→ ∀ (B:Nat→Prop) (K:Nat×Nat),rf ⟨X,B,K⟩ E (dt E (exec E m))) {f:Nat} {af:aQ} {F:FuncId} (hf:E.fn f=some af) (hF:X.fH F=some f)
  {args:List V} {res:eZ} {e:aR} {σ:St} (hlen:args.length=af.nparams) (hx:exec E n af.body (enter args)=some (e,σ)) (he:e= .normal∨e= .ret) (hl:leave af args σ=some res):bJ X F args res:=by
 obtain⟨fn,h,c,mS,iu,gv,aO,hle⟩:=hE.fn f af F hf hF
 intro B K w φ0 vals D1 hv ho
 have hcf: (callFunc F vals.toArray).run X.P w= .ok (.enter F vals.toArray) w:=by
  have aaj: (fn.name== "runtime.NumGoroutine")=false:=iu
  simp[callFunc,Sem.run_bind,program,Sem.run,mS,aaj,gv]
  simpa using iu
 rw[hcf]
 unfold EP at aO
 rw[gv] at aO
 simp only at aO
 split at aO
 ·rename_i ac rs hc Q7
  injection aO with aO
  subst aO
  simp only[ub]
  refine(callsIn_wide (n:=0)).1 (callsIn_of_wp_marks (F:=Fr none) mS gv trivial ?_ rfl)
  have bI:vals.toArray.size≤fn.ntmps:=by simp[D1,hlen];exact hle
  have kG:jY ⟨X,B,K⟩ ⟨w,φ0,(enter args).O⟩ ⟨fn.ntmps,w.heap.size,none⟩ (enter args) {tmps:=vals.toArray++Array.replicate (fn.ntmps - vals.toArray.size) undef,defers:=[]} w:=by
   refine⟨Marks.nil (aiZ _) abW,by simp at bI ⊢;omega,φ0,⟨fun t=> ?_,ho⟩,Le.refl _⟩
   by_cases ht:t<vals.length
   ·have e1: (vals.toArray++Array.replicate (fn.ntmps - vals.toArray.size) undef).getD t undef=vals[t]:=by
     simp[aj5,ht]
    rw[e1]
    exact hv t _ (aiW ht)
   ·have e1: (vals.toArray++Array.replicate (fn.ntmps - vals.toArray.size) undef).getD t undef=undef:=by
     simp[aj5,ht,aku]
     split<;>rfl
    have e2: (enter args).T t=dO:=by
     have:args[t]? =none:=ajN abV
     simp[enter,this]
    rw[e1,e2]
    exact r8
  refine wpIn_mono (mC (X:=⟨X,B,K⟩) hE.mixed (fun g F caps xs h1 h2 μ lb h3 h4=>hE.iter g F caps xs h1 h2 B K μ lb h3 h4) (h:={h with n:=fn.ntmps}) n (fun m hm=>hH m hm B K) rfl c ac _ _ e _ w hc hx kG) fun ex a' w' hq=> ?_
  obtain⟨rfl,kE,_,φ',hr,qO⟩:=hq
  obtain⟨vs,l1,l2,refs,l3,l4⟩:=Pu hl
  have fin:LeavesInM (Fr none) 0 X.P fn a'.tmps (fun
    | .returned val,w'=> ∃φ' T' O' v0 refs,Le ⟨w,φ0,(enter args).O⟩ ⟨w',φ',O'⟩∧bk ⟨X,B,K⟩ ⟨w',φ',O'⟩∧aj ⟨X,B,K⟩ ⟨w',φ',O'⟩ v0 val∧dz args.length ⟨T',O'⟩ v0 res.val refs∧distinct refs=true∧cO O' 0 args=some res.outs
    | _,_=>False) a'.defers .returning w':=by
   refine qN (fun w'=>Rel ⟨X,B,K⟩ σ.T a' ⟨w',φ',σ.O⟩∧Le ⟨w,φ0,(enter args).O⟩ ⟨w',φ',σ.O⟩) (fun w1 D h1 h2 ⟨hr,hle⟩=> ⟨⟨fun t=>aj.cq (iU (μ:=⟨w1,φ',σ.O⟩) h2 rfl rfl) (hr.tmps t),xB hr.bg h2⟩,FI hle h1⟩) (fun w' ⟨hr,qO⟩=> ?_) kE ⟨hr,qO⟩
   obtain⟨Tb,r1,r2⟩:=sW hr Q7 l1
   refine⟨_,r1,φ',σ.T,σ.O,_,refs,qO,hr.bg,?_,l4 _ rfl,l3,l2⟩
   match vs,Tb,r2 with
   | [],[],r2=>simp only[aj];exact⟨_,rfl,by simpa using r2⟩
   | [v],[u],r2=>simp only[ag] at r2;exact r2.1
   | _::_::_,_::_::_,r2=>simp only[aj];exact⟨_,rfl,by simpa using r2⟩
   | [],_::_,r2=>simp[ag] at r2
   | _::_,[],r2=>simp[ag] at r2
   | [_],_::_::_,r2=>simp[ag] at r2
   | _::_::_,[_],r2=>simp[ag] at r2
  rcases he with rfl| rfl
  ·exact fin
  ·exact fin
 ·simp at aO
theorem B7 (   hE:xO X E): ∀ (n:Nat) (f:Nat) (F:FuncId) (args:List V) (res:eZ),X.fH F=some f→call E n f args=some res→bJ X F args res:=by
 intro n
 induction n using Nat.strongRecOn with
 | _ n ih=>
   have low: ∀ (f:Nat) (F:FuncId) (args:List V) (res:eZ),X.fH F=some f→eM E (exec E n) f args=some res→bJ X F args res:= ?low
   ·intro f F args res hF h
    unfold call dt at h
    split at h
    ·rename_i g hg
     exact hE.hyb f g F hg hF _ low args res h
    ·exact low f F args res hF h
   intro f F args res hF h
   unfold eM at h
   split at h
   ·rename_i r he
    injection h with h;subst h
    exact hE.ext f args r F he hF
   ·split at h
    ·rename_i af hf
     split at h
     ·rename_i hlen
      have hH: ∀m,m<n→ ∀ (B:Nat→Prop) (K:Nat×Nat),rf ⟨X,B,K⟩ E (dt E (exec E m)):=fun m hm B K=>Lv hE.inj (fun f F asq res h1 h2=>ih m hm f F asq res h1 h2) hE.EG
      split at h
      ·split at h
       ·rename_i σ hx;exact pF hE hH hf hF hlen hx (.inl rfl) h
       ·rename_i σ hx;exact pF hE hH hf hF hlen hx (.inr rfl) h
       ·simp at h
      ·rename_i p hp
       split at h
       ·rename_i ns
        have yy: (cH p args).length=af.nparams:=by rw[iM];exact hlen
        split at h
        ·     rename_i σ hx
              rw[aiU] at h
              obtain⟨r0,h,rfl⟩:=h
              exact Eu ns (pF hE hH hf hF yy hx (.inl rfl) h)
        ·     rename_i σ hx
              rw[aiU] at h
              obtain⟨r0,h,rfl⟩:=h
              exact Eu ns (pF hE hH hf hF yy hx (.inr rfl) h)
        ·simp at h
       ·simp at h
     ·simp at h
    ·simp at h
end
end Go.AM
namespace Go.AM
open Go Go.RowKit
section
variable {X:TrEnv} {F:FuncId} {fn:Func}
theorem wx {args:List V} (h:V.al args=true): (enter args).O=fun _=>bH:=by rw[ef h]
theorem Lx (mS:X.P.funcs[F]? =some fn) (iu: (fn.name== "runtime.NumGoroutine")=false) (hb:fn.body.isNone=true) (hn:Extern.findNext fn=none) (he:Extern.find fn=some Extern.MathSqrt.sqrt)
  {asq:List V} {res:eZ} (h:C1 asq=some res):bJ X F asq res:=by
 unfold C1 at h
 split at h
 ·rename_i b
  split at h
  ·rename_i r hr
   injection h with h;subst h
   intro B K w φ0 vals hl hv ho
   match vals,hl with
   | [v],_=>
     have h0:=hv 0 v rfl
     have e0: (enter [V.float b]).T 0= .float b:=rfl
     rw[e0] at h0
     simp only[aj] at h0
     subst h0
     rw[run_callFunc_extern mS iu hb hn he]
     have ah: (Extern.MathSqrt.sqrt #[.float .f64 b]).run X.P w= .ok (.float .f64 r) w:=by
       have e:Extern.MathSqrt.sqrt #[.float .f64 b]=(match FloatKind.f64.format.sqrt b with
        | some r=>pure (.float .f64 r)
        | none=>do pure (.float .f64 (←choose (.nanBits .f64 b b)))):=rfl
       rw[e,hr];rfl
     have e1: ([Value.float .f64 b]:List Value).toArray= #[.float .f64 b]:=rfl
     rw[e1,ah]
     simp only[Result.andThen,ub]
     refine⟨φ0,fun _=>dO,_,.float r,[],Le.refl _,ho,by simp[aj],.one (by simp[dQ,V.aw]),rfl,rfl⟩
  ·simp at h
 ·simp at h
def zD:Env:={fn:=fun _=>none,ext:=fun _ _=>none}
def ZQ:bo:=fun _ _=>none
def strip (o:b9):b9:={o with pre:=[]}
structure iX (X:TrEnv) (fn:Func) (sz lim:Nat):Prop where
 body: ∃i0 i1 i2 i3 FG KZ TZ T1,fn.body=some (.seq (.region i0 FG false) (.seq (.seq (.region i1 KZ false) (.cond (.tmp 4) (.seq (.region i2 TZ false) .ret) .skip)) (.seq (.region i3 T1 false) .ret)))∧
  (iJ X ({n:=fn.ntmps}:Hints) FG FG.toList).map (List.map strip)=some [⟨some 2,.move (.const .nils),none,[]⟩]∧
  (iJ X ({n:=fn.ntmps}:Hints) TZ TZ.toList).map (List.map strip)=some [⟨some 2,.move (.const .nils),none,[]⟩]∧
  (∃zero,aV zero sz=true∧0 <sz∧(iJ X ({n:=fn.ntmps}:Hints) T1 T1.toList).map (List.map strip)=some [⟨some 5,.buildSlice 96 sz zero 0 [],none,[]⟩,⟨some 6,.move (.tmp 0),none,[]⟩,⟨some 7,.append 128 sz lim (.tmp 5) (.tmp 6),none,[]⟩,⟨some 2,.move (.tmp 7),none,[]⟩])∧
  (∃o1 o2 t e,KZ= #[o1,o2]∧(nR X ({n:=fn.ntmps}:Hints) #[o1,o2] o1).map strip=some ⟨some 3,.move (.tmp 0),none,[]⟩∧o2.dst=some 4∧o2.guard=none∧o2.op= .binOp .eql t (.tmp 3) (.const (.slice none 0 0)) t∧X.P.underlying t=some (.slice e))
 res:fn.results= #[.tmp 2]
 tmps:8≤fn.ntmps
theorem ML {Y:Ctx} (sF: ∀t1 t2 k,Y.qM t1=some k→Y.qM t2=some k→t1=t2):rf Y zD ZQ:=
 Lv sF (fun _ _ _ _ _ h=>by simp[ZQ] at h) (fun _ _ _ h=>by simp[zD] at h)
theorem FH {Y:Ctx} (sF: ∀t1 t2 k,Y.qM t1=some k→Y.qM t2=some k→t1=t2) (n:Nat):rf Y zD (call zD n):=
 Lv sF (fun _ _ _ _ _ h=>by simp[call,dt,eM,zD] at h) (fun _ _ _ h=>by simp[zD] at h)
theorem jd (sF: ∀t1 t2 k,X.qM t1=some k→X.qM t2=some k→t1=t2) (mS:X.P.funcs[F]? =some fn) (iu: (fn.name== "runtime.NumGoroutine")=false) {sz lim:Nat} (hsh:iX X fn sz lim)
   {asq:List V} {res:eZ} (h:dI sz lim asq=some res):bJ X F asq res:=by
 obtain⟨⟨i0,i1,i2,i3,FG,KZ,TZ,T1,gv,h0,h2,⟨zero,zd,Co,h3⟩,o1,o2,t,e,rfl,XP,SU,Kd,adV,hty⟩,jj,H8⟩:=hsh
 rw[aiU] at h0 h2 h3 XP
 obtain⟨fg,h0,k0⟩:=h0
 obtain⟨as2,h2,k2⟩:=h2
 obtain⟨as3,h3,k3⟩:=h3
 obtain⟨ao1,XP,k1⟩:=XP
 have k0':fg.map (fun o=> {o with pre:=[]})=_:=k0
 have k2':as2.map (fun o=> {o with pre:=[]})=_:=k2
 have k3':as3.map (fun o=> {o with pre:=[]})=_:=k3
 obtain⟨a0,xs,rfl,vI,CI,rfl⟩: ∃a0 xs,asq=[a0]∧(a0= .lit sz xs∨a0= .nils∧xs=[])∧xs.length≤lim∧res=⟨.own sz xs,[]⟩:=by
   unfold dI at h
   split at h
   ·injection h with h;exact⟨_,[],rfl,.inr ⟨rfl,rfl⟩,abW,h.symm⟩
   ·rename_i sz' xs
    split at h
    ·rename_i he;injection h with h;obtain⟨rfl,he⟩:=he;exact⟨_,xs,rfl,.inl rfl,he,h.symm⟩
    ·simp at h
   ·simp at h
 have ns:V.al [a0]=true:=by rcases vI with rfl| ⟨rfl,rfl⟩ <;>rfl
 intro B K w φ0 vals D1 hv ho
 have hO: (enter [a0]).O=fun _=>bH:=wx ns
 have hT0: (enter [a0]).T 0=a0:=by rw[ef ns];rfl
 have hcf: (callFunc F vals.toArray).run X.P w= .ok (.enter F vals.toArray) w:=by
   simp[callFunc,Sem.run_bind,program,Sem.run,mS,gv]
   simpa using iu
 rw[hcf]
 simp only[ub]
 refine(callsIn_wide (n:=0)).1 (callsIn_of_wp_marks (F:=Fr none) mS gv trivial ?_ rfl)
 have bI:vals.toArray.size≤fn.ntmps:=by simp[D1];omega
 have kG:jY ⟨X,B,K⟩ ⟨w,φ0,(enter [a0]).O⟩ ⟨fn.ntmps,w.heap.size,none⟩ (enter [a0]) {tmps:=vals.toArray++Array.replicate (fn.ntmps - vals.toArray.size) undef,defers:=[]} w:=by
   refine⟨Marks.nil (aiZ _) abW,by simp at bI ⊢;omega,φ0,⟨fun t=> ?_,ho⟩,Le.refl _⟩
   by_cases ht:t<vals.length
   ·have e1: (vals.toArray++Array.replicate (fn.ntmps - vals.toArray.size) undef).getD t undef=vals[t]:=by
     simp[aj5,ht]
    rw[e1]
    exact hv t _ (aiW ht)
   ·have e1: (vals.toArray++Array.replicate (fn.ntmps - vals.toArray.size) undef).getD t undef=undef:=by
     simp[aj5,ht,aku]
     split<;>rfl
    have e2: (enter [a0]).T t=dO:=by
     have: [a0][t]? =none:=ajN abV
     simp[enter,this]
    rw[e1,e2]
    exact r8
 have H:=ML (Y:=⟨X,B,K⟩) sF
 refine wpIn_seq (wpIn_mono (wpIn_region (Q:=fun ex a w'=>ex= .normal∧jY ⟨X,B,K⟩ ⟨w,φ0,(enter [a0]).O⟩ ⟨fn.ntmps,w.heap.size,none⟩ ((enter [a0]).put (some 2) .nils) a w') ?_) ?_)
 · rw[aj7]
   refine fK H (h:=({n:=fn.ntmps}:Hints)) rfl h0 FG.size 0 abV kG (by rw[List.drop_zero,k0'];rfl) fun a' w' jE=> ⟨rfl,jE⟩
 rintro ex a1 w1 ⟨rfl,iv⟩
 refine wpIn_seq (wpIn_seq (wpIn_region ?_))
 have ah4:List.range (#[o1,o2]:Array Oper).size=[0,1]:=rfl
 rw[ah4,wpOpsIn_cons]
 have eT0: ((enter [a0]).put (some 2) .nils).T 0=a0:=hT0
 have adW:dV zD ZQ ao1 ((enter [a0]).put (some 2) .nils)=some (((enter [a0]).put (some 2) .nils).put (some 3) a0):=by
   have hs:dV zD ZQ (strip ao1) ((enter [a0]).put (some 2) .nils)=some (((enter [a0]).put (some 2) .nils).put (some 3) a0):=by
    rw[k1]
    show some (((enter [a0]).put (some 2) .nils).put (some 3) (((enter [a0]).put (some 2) .nils).T 0))=_
    rw[eT0]
   exact hs
 refine mD H (h:=({n:=fn.ntmps}:Hints)) (o:=o1) rfl XP rfl iv adW fun a2 w2 mn=> ?_
 generalize hσ2: ((enter [a0]).put (some 2) .nils).put (some 3) a0=σ2 at mn
 have e23:σ2.T 3=a0:=by rw[←hσ2];rfl
 have e20:σ2.T 0=a0:=by rw[←hσ2];exact hT0
 have e2O:σ2.O=fun _=>bH:=by rw[←hσ2];exact hO
 rw[wpOpsIn_cons]
 obtain⟨TO,I1,φ2,pT,aad⟩:=mn
 have Fm:=pT.tmps 3
 rw[e23] at Fm
 obtain⟨ad,n,cap,jF⟩: ∃ad n cap,a2.tmps.getD 3 undef= .slice ad n cap:=by
   rcases vI with rfl| ⟨rfl,_⟩
   ·simp only[aj] at Fm
    obtain⟨_,_,a,c,_,h,_⟩:=Fm
    exact⟨_,_,_,h⟩
   ·simp only[aj] at Fm
    obtain⟨a,h⟩:=Fm
    exact⟨_,_,_,h⟩
 have vV:ad.isNone=true→xs=[]:=by
   intro hn
   rcases vI with rfl| ⟨rfl,h9⟩
   ·simp only[aj] at Fm
    obtain⟨_,_,a,c,_,h,_,_,h'⟩:=Fm
    rw[jF] at h
    injection h with h _ _
    rcases h' with h'| ⟨b,o,h',_⟩
    ·exact h'
    ·rw[h,h'] at hn;simp at hn
   ·exact h9
 have heq: (Op.equal t (.slice ad n cap) (.slice none 0 0)).run X.P w2= .ok ad.isNone w2:=run_equal_slice_nil w2 t e ad n cap hty
 have jL: (execOp a2.eval o2).run X.P w2= .ok (.value (.bool ad.isNone)) w2:=by
   simp only[execOp,adV]
   refine dy ?_
   have ev:a2.eval (.tmp 3)= .slice ad n cap:=by simpa [Go.Act.eval] using jF
   have gZ:a2.eval (.const (.slice none 0 0))= .slice none 0 0:=rfl
   simp[eqGuard,ev,gZ,Go.binOp,Sem.run_bind,heq]
 have sM: (#[o1,o2]:Array Oper)[1]? =some o2:=rfl
 simp only[wpOpIn,sM]
 rw[if_pos (by simp[Region.wanted,Kd])]
 refine r6 (by rw[adV];simp) ?_
 unfold Oper.wp
 rw[jL,Oper.upon_value]
 simp only[wpOpsIn]
 have Cn:jY ⟨X,B,K⟩ ⟨w,φ0,(enter [a0]).O⟩ ⟨fn.ntmps,w.heap.size,none⟩ (σ2.put (some 4) (.bool ad.isNone)) (a2.put o2.dst (.bool ad.isNone)) w2:=by
   rw[SU]
   refine⟨by rw[put_defers];exact TO,by rw[mE];exact I1,φ2,?_,?_⟩
   ·exact po pT (Le.refl _) pT.bg (by simp[aj]) (by simp;rw[I1];simp;omega) σ2.O
   ·exact aad
 generalize a2.put o2.dst (.bool ad.isNone)=a3 at Cn ⊢
 have WB:a3.eval (.tmp 4)= .bool ad.isNone:=B5 (c':= .tmp 4) Cn rfl rfl
 have LN:V.al xs=true∧xs.all (aV · sz)=true:=by
   rcases vI with rfl| ⟨rfl,h9⟩
   ·simp only[aj] at Fm
    obtain⟨k1,k2,a,c,vs,_,_,k3,k4⟩:=Fm
    refine⟨k1,?_⟩
    rcases k4 with rfl| ⟨b,o,_,_,_,k5⟩
    ·rfl
    ·rw[aiY] at k2 ⊢
     intro x hx
     obtain⟨i,hi⟩:=aji.1 hx
     obtain⟨v,hv1,Mz⟩:=ag.get k3 hi
     have:=(k5 i v hv1).1
     rw[Mz.fI (k2 x hx)] at this
     simp[aV,this,k2 x hx]
   ·subst h9;exact⟨rfl,rfl⟩
 have adX: ∀ (a':Go.Act) (w':World) (O':Nat→Obj),Marks ⟨fn.ntmps,w.heap.size,none⟩ w' a'.defers→(∃φ',Le ⟨w,φ0,(enter [a0]).O⟩ ⟨w',φ',O'⟩∧bk ⟨X,B,K⟩ ⟨w',φ',O'⟩∧ ∃r g,1≤r∧aj ⟨X,B,K⟩ ⟨w',φ',O'⟩ (.sl r g 0 xs.length) (a'.tmps.getD 2 undef)∧O' r=⟨g,sz,true,false,some xs⟩)→
    bodyPostM (Fr none) 0 X.P fn (fun| .returned val,w'=> ∃φ' T' O' v0 refs,Le ⟨w,φ0,(enter [a0]).O⟩ ⟨w',φ',O'⟩∧bk ⟨X,B,K⟩ ⟨w',φ',O'⟩∧aj ⟨X,B,K⟩ ⟨w',φ',O'⟩ v0 val∧dz [a0].length ⟨T',O'⟩ v0 (eZ.mk (.own sz xs) []).val refs∧distinct refs=true∧cO O' 0 [a0]=some (eZ.mk (.own sz xs) []).outs| _,_=>False) .ret a' w':=by
   rintro a' w' O' hd ⟨φ',k1,k2,r,g,k3,k4,k5⟩
   refine qN (fun w'=> (Le ⟨w,φ0,(enter [a0]).O⟩ ⟨w',φ',O'⟩∧bk ⟨X,B,K⟩ ⟨w',φ',O'⟩)∧aj ⟨X,B,K⟩ ⟨w',φ',O'⟩ (.sl r g 0 xs.length) (a'.tmps.getD 2 undef)) (fun w1 D h1 h2 ⟨⟨hle,Gq⟩,hv⟩=> ⟨⟨FI hle h1,xB Gq h2⟩,aj.cq (iU (μ:=⟨w1,φ',O'⟩) h2 rfl rfl) hv⟩) ?_ hd ⟨⟨k1,k2⟩,k4⟩
   rintro w' ⟨⟨k1,k2⟩,k4⟩
   refine⟨a'.tmps.getD 2 undef,by simp[results,jj],φ',fun _=>dO,O',_,[r],k1,k2,k4,.one ?_,rfl,kr ns⟩
   have E0:aG xs 0 xs.length=xs:=zM rfl
   have hnr: ¬r< [a0].length:=by simp;omega
   simp only[dQ,V.aw,cG,k5,E0,LN.1,hnr]
   simp
 cases hb:ad.isNone with
 | true=>
   rw[hb] at WB
   obtain rfl:=vV hb
   refine wpIn_cond_true WB (wpIn_seq (wpIn_region ?_))
   rw[aj7]
   refine fK H (h:=({n:=fn.ntmps}:Hints)) rfl h2 TZ.size 0 abV Cn (σ':=(σ2.put (some 4) (.bool ad.isNone)).put (some 2) .nils) (by rw[List.drop_zero,k2'];rfl) fun a' w' jE=> ?_
   refine wpIn_ret ?_
   obtain⟨pj,_,φ,w9,qO⟩:=jE
   have eO: ((σ2.put (some 4) (.bool ad.isNone)).put (some 2) .nils).O=fun _=>bH:=e2O
   have Mz:=w9.tmps 2
   have e2: ((σ2.put (some 4) (.bool ad.isNone)).put (some 2) .nils).T 2= .nils:=rfl
   rw[e2] at Mz
   have fi:=w9.bg
   rw[eO] at qO fi
   simp only[aj] at Mz
   obtain⟨aa,haa⟩:=Mz
   refine adX a' w' (da (fun _=>bH) 1 ⟨1,sz,true,false,some []⟩) pj ⟨da φ 1 ⟨0,0,0⟩,qO.trans ⟨aiZ _,fun b hb hn=> ⟨rfl,?_⟩,fun r=> ?_,fun r hr=> ?_,rfl,rfl,rfl,fun _ _=>rfl⟩,⟨fun r es bq=> ?_,fun r r' _ h1 h2 h3 h4=> ?_,fun r h1 h2=> ?_,fi.blt⟩,1,1,aiZ _,?_,rfl⟩
   ·rintro⟨r,h1,h2,h3,h4⟩
    by_cases e:r=1
    ·subst e;simp[da] at h3
    ·simp[da,e,bH] at h1
   ·simp only[bH];omega
   ·by_cases e:r=1
    ·subst e;simp[da,bH] at hr
    ·simp[da,e]
   ·by_cases e:r=1
    ·subst e
     simp only[da,if_true,aiT] at bq ⊢
     subst bq
     left
     unfold nv
     simp only[da,if_true]
     exact⟨Co,abW,rfl,abW⟩
    ·simp[da,e,bH] at bq
   ·by_cases e:r=1
    ·subst e;simp[da] at h3
    ·simp[da,e,bH] at h1
   ·by_cases e:r=1
    ·subst e;simp[da] at h2
    ·simp[da,e,bH] at h1
   ·simp only[aj]
    exact⟨aa,0,haa,abW,by simp[da],fun _=> ⟨by simpa [da] using Co,by simp[da],abW⟩⟩
 | false=>
   rw[hb] at WB
   refine wpIn_cond_false WB (wpIn_skip ?_)
   refine wpIn_seq (wpIn_region ?_)
   have hw3: ∃σ4 g,iN zD ZQ [⟨some 5,.buildSlice 96 sz zero 0 [],none,[]⟩,⟨some 6,.move (.tmp 0),none,[]⟩,⟨some 7,.append 128 sz lim (.tmp 5) (.tmp 6),none,[]⟩,⟨some 2,.move (.tmp 7),none,[]⟩] (σ2.put (some 4) (.bool ad.isNone))=some σ4∧σ4.T 2= .sl 96 g 0 xs.length∧σ4.O 96=⟨g,sz,true,false,some xs⟩:=by
    have adY:σ2.O 96=bH:=by rw[e2O]
    have MY: ∀ (k:List V→Act),content sz a0 k=k xs:=by
     intro k
     rcases vI with rfl| ⟨rfl,rfl⟩ <;>simp[content]
    have IU:xs≠[]→ ¬xs.length≤0:=fun h h2=>h (List.eq_nil_of_length_eq_zero abV)
    by_cases hx:xs=[]
    ·simp[iN,dV,cP,aM,ev,ke,ee,Act.run,St.put,da,e20,adY,MY,zd,Co,hx,bH,nJ,V.al,overwrite]
    ·have:=IU hx
     have iO: (∀x ∈ xs,aV x sz=true)=True:=eq_true (aiY.1 LN.2)
     simp[iN,dV,cP,aM,ev,ke,ee,Act.run,St.put,da,e20,adY,MY,zd,Co,hx,bH,nJ,LN.1,iO,CI,aG,this]
   obtain⟨σ4,g,adZ,PU,Kd⟩:=hw3
   rw[aj7]
   refine fK H (h:=({n:=fn.ntmps}:Hints)) rfl h3 T1.size 0 abV Cn (by rw[List.drop_zero,k3'];exact adZ) fun a' w' jE=> ?_
   refine wpIn_ret ?_
   obtain⟨pj,_,φ,w9,qO⟩:=jE
   have Mz:=w9.tmps 2
   rw[PU] at Mz
   exact adX a' w' σ4.O pj ⟨φ,qO,w9.bg,96,g,abV,Mz,Kd⟩
end
end Go.AM
namespace Go.AM
open Go Go.RowKit Go.ChangeShapes Go.WideShapes
theorem sA {H:Type} {enc:TypeId×Value→H} {P:Program} {f:Func} {s:ChangeSpec} {apart fresh handsOn again:Bool} {W W':World} {args:Array Value} {v:Value} {ds gs:List (DataW H)} {before pa pv:List MemPlace}
  (hW:DataW.Whole enc P f.params.toList s.vars apart W args.toList ds gs before)
  (jj: ∀ (b:Nat) (sp:Nat→Bool) (hd:Bool),DataW.TrodAll enc P W' b sp hd f.resultTypes.toList (v.resultList f.resultTypes.size) (s.fn H (ds++gs)).results [])
  (jb: ∀sp:Nat→Bool,(∀p ∈ before,sp p.block=true)→DataW.TrodAll enc P W' 0 sp true f.params.toList args.toList (s.fn H (ds++gs)).args pa)
  (X4: ∀sp:Nat→Bool,(∀p ∈ before,sp p.block=true)→DataW.TrodVars enc P W' sp s.vars (s.fn H (ds++gs)).vars pv)
  (ER:before=pa++pv) (hk:W.keptBut W' (· ∈ before)) (gz: ∀a,a.block<W.heap.size→W'.frozen? a=W.frozen? a)
  (vC: ∀ (j:Nat) (t:TypeId) (r:Value),f.resultTypes[j]? =some t→(v.resultList f.resultTypes.size)[j]? =some r→Value.okWide P W' .any 0 t r):
  s.post enc P f apart fresh handsOn again W args v W':=by
 have hold: ∀p ∈ before,(fun b=>decide (b<W.heap.size)) p.block=true:=fun p hp=>by simpa using hW.lt p hp
 have bl:=hW.lt
 refine⟨ds,gs,before,[],pa,pv,hW,jj _ _ _,jb _ hold,X4 _ hold,World.keptBut_mono (fun p hp=> ⟨hp,?_⟩) hk,fun _=> ?_⟩
 ·rw[ER,ai6] at hp
  exact Or.inr hp
 ·obtain⟨_,_,_,_,_,hz,hn⟩:=hW
  refine⟨vC,_,_,([]++pa)++pv,⟨[]++pa,pv,trodAll_append (jb _ (fun _ _=>rfl)) (jj _ _ _),X4 _ (fun _ _=>rfl),rfl,?_,?_⟩,?_⟩
  ·intro b off hp
   have hb:MemPlace.cell b off ∈ before:=by rw[ER];simpa using hp
   rw[gz _ (bl _ hb)]
   exact hz b off hb
  ·intro ha
   have:=hn ha
   rw[ER] at this
   simpa using this
  ·intro p hp _
   rw[ER]
   simpa using hp
end Go.AM
namespace Go.AM
open Go Go.RowKit
section
variable (P:Program)
def xP (e:TypeId) (ws:List V):V:=match P.underlying e with
 | some (.struct _) | some (.array ..)=> .agg ws
 | _=>ws.headD dO
def TVF (tv:TypeId→List V→Prop):List Field→List V→Prop
 | [],vs=>vs=[]
 | f::fs,vs=> ∃a b,vs=a++b∧a.length=P.cellsOf f.type∧tv f.type a∧TVF tv fs b
def TVA (tv:List V→Prop) (s:Nat):Nat→List V→Prop
 | 0,vs=>vs=[]
 | k+1,vs=> ∃a b,vs=a++b∧a.length=s∧tv a∧TVA tv s k b
def TV:Nat→TypeId→List V→Prop
 | 0,_,_=>False
 | n+1,t,vs=>match P.underlying t with
   | some .bool=> ∃b,vs=[.bool b]
   | some (.int k)=> ∃x,vs=[.int k x]∧(Lit.int k x).wf=true
   | some .string=> ∃s,vs=[.str s]∧s.length≤maxLen
   | some (.slice e)=>vs=[.nils]∨ ∃xs,vs=[.lit (P.cellsOf e) xs]∧xs.length≤maxLen∧ ∀x ∈ xs,∃ws,TV n e ws∧x=xP P e ws
   | some (.struct fs)=>TVF P (TV n) fs.toList vs
   | some (.array k e)=>TVA (TV n e) (P.cellsOf e) k vs
   | _=>False
def rB:List Field→Nat→Option Nat
 | [],off=>some off
 | f::fs,off=>if f.offset=off then rB fs (off+P.cellsOf f.type) else none
def F7 (S:List TypeId) (t:TypeId):Bool:=match P.underlying t with
 | some .bool| some (.int _) | some .string=>P.cellsOf t==1
 | some (.slice e)=>P.cellsOf t==1 &&decide (0 <P.cellsOf e) &&S.contains e
 | some (.struct fs)=> (rB P fs.toList 0==some (P.cellsOf t)) &&fs.toList.all fun f=>S.contains f.type
 | some (.array k e)=>S.contains e &&P.cellsOf t==k*P.cellsOf e
 | _=>false
end
section
variable {X:TrEnv} {H:Type} {enc:TypeId×Value→H} {w:World} {S:List TypeId} {base:Nat} {spare:Nat→Bool} {held:Bool}
abbrev still (w:World) (φ:Nat→Row):Mu:=⟨w,φ,fun _=>bH⟩
abbrev free (X:TrEnv):Ctx:=⟨X,fun _=>False,(0,0)⟩
def Good (X:TrEnv) (w:World) (n:Nat) (t:TypeId) (vs:List V) (cs:List Value):Prop:=
 TV X.P n t vs∧vs.all V.aT=true∧V.al vs=true∧ ∀φ,ag (free X) (still w φ) vs cs
theorem pG: ∀ {a b:List V},V.al (a++b)=(V.al a &&V.al b)
 | [],b=>by simp[V.al]
 | x::a,b=>by simp[V.al,pG (a:=a),Bool.and_assoc]
theorem yO {n:Nat}: ∀ {fs:List Field} {cs:List Value} {off total:Nat},rB X.P fs off=some total→cs.length=total→
   (∀f ∈ fs,∃vs,Good X w n f.type vs ((cs.drop f.offset).take (X.P.cellsOf f.type)))→
   ∃vs,TVF X.P (TV X.P n) fs vs∧vs.all V.aT=true∧V.al vs=true∧ ∀φ,ag (free X) (still w φ) vs (cs.drop off)
 | [],cs,off,total,hc,hl,_=>by
   simp only[rB,aiT] at hc
   subst hc
   refine⟨[],rfl,rfl,rfl,fun φ=> ?_⟩
   rw[ai7 abV];simp[ag]
 | f::fs,cs,off,total,hc,hl,hf=>by
   simp only[rB] at hc
   split at hc
   ·rename_i ho
    subst ho
    obtain⟨a,Ku,RN,ha3,ha4⟩:=hf f abW
    obtain⟨b,Cm,tO,Lz,hb4⟩:=yO hc hl (fun g hg=>hf g (by simp[hg]))
    have hle:f.offset+X.P.cellsOf f.type≤total:=by
     clear Ku RN ha3 ha4 Cm tO Lz hb4 hf
     have: ∀ (fs:List Field) (o tt:Nat),rB X.P fs o=some tt→o≤tt:=by
      intro fs
      induction fs with
      | nil=>intro o tt h;simp[rB] at h;omega
      | cons g gs ih=>
        intro o tt h
        simp only[rB] at h
        split at h
        ·have:=ih _ _ h;omega
        ·simp at h
     exact this _ _ _ hc
    have hal:a.length=X.P.cellsOf f.type:=by
     have:=(ha4 (fun _=> ⟨0,0,0⟩)).length
     rw[this];simp;omega
    refine⟨a++b,⟨a,b,rfl,hal,Ku,Cm⟩,by simp[RN,tO],by rw[pG,ha3,Lz];rfl,fun φ=> ?_⟩
    have e:cs.drop f.offset=(cs.drop f.offset).take (X.P.cellsOf f.type)++cs.drop (f.offset+X.P.cellsOf f.type):=by
     rw[←aj9,List.take_append_drop]
    rw[e]
    exact ag.append (ha4 φ) (hb4 φ)
   ·simp at hc
theorem B8 {n:Nat} {e:TypeId}: ∀ (k:Nat) {cs:List Value} (j:Nat),cs.length=(j+k)*X.P.cellsOf e→
   (∀i,i<j+k→ ∃vs,Good X w n e vs ((cs.drop (i*X.P.cellsOf e)).take (X.P.cellsOf e)))→
   ∃vs,TVA (TV X.P n e) (X.P.cellsOf e) k vs∧vs.all V.aT=true∧V.al vs=true∧ ∀φ,ag (free X) (still w φ) vs (cs.drop (j*X.P.cellsOf e))
 | 0,cs,j,hl,_=>by
   refine⟨[],rfl,rfl,rfl,fun φ=> ?_⟩
   rw[ai7 (by rw[hl];simp)];simp[ag]
 | k+1,cs,j,hl,hf=>by
   obtain⟨a,Ku,RN,ha3,ha4⟩:=hf j abV
   have e1:j+1+k=j+(k+1):=abV
   obtain⟨b,Cm,tO,Lz,hb4⟩:=B8 k (cs:=cs) (j+1) (by rw[e1];exact hl) (fun i hi=>hf i abV)
   have hal:a.length=X.P.cellsOf e:=by
    have:=(ha4 (fun _=> ⟨0,0,0⟩)).length
    rw[this];simp
    rw[hl,←Nat.sub_mul]
    have:1≤j+(k+1) - j:=abV
    exact Nat.min_eq_left (Nat.le_mul_of_pos_left _ this)
   refine⟨a++b,⟨a,b,rfl,hal,Ku,Cm⟩,by simp[RN,tO],by rw[pG,ha3,Lz];rfl,fun φ=> ?_⟩
   have e:cs.drop (j*X.P.cellsOf e)=(cs.drop (j*X.P.cellsOf e)).take (X.P.cellsOf e)++cs.drop ((j+1)*X.P.cellsOf e):=by
    rw[ajo,Nat.one_mul,←aj9,List.take_append_drop]
   rw[e]
   exact ag.append (ha4 φ) (hb4 φ)
theorem MZ {α:Type} {p:Nat→α→Prop}: ∀ (n:Nat),(∀i,i<n→ ∃x,p i x)→ ∃xs:List α,xs.length=n∧ ∀i x,xs[i]? =some x→p i x
 | 0,_=> ⟨[],rfl,abW⟩
 | n+1,h=>by
   obtain⟨xs,h1,h2⟩:=MZ n (fun i hi=>h i abV)
   obtain⟨x,hx⟩:=h n abV
   refine⟨xs++[x],by simp[h1],fun i y hy=> ?_⟩
   by_cases hi:i<xs.length
   ·rw[ajw hi] at hy;exact h2 i y hy
   ·rw[ajp abV] at hy
    have:i - xs.length=0:=by
     have:=(aiS.1 hy).1
     simp at this;omega
    rw[this] at hy
    simp at hy;subst hy
    have:i=n:=abV
    subst this;exact hx
theorem trod_good (hS:S.all (F7 X.P S)=true): ∀ (n:Nat) (t:TypeId) (cs:List Value) (x:DataW H×List MemPlace),t ∈ S→DataW.trod enc X.P w base spare held n t cs=some x→ ∃vs,Good X w n t vs cs:=by
 intro n
 induction n with
 | zero=>intro t cs x _ h;simp[DataW.trod] at h
 | succ n ih=>
   intro t cs x ht h
   have hp:=aiY.1 hS t ht
   unfold F7 at hp
   cases hu:X.P.underlying t with
   | none=>rw[hu] at hp;simp at hp
   | some desc=>
     rw[hu] at hp
     cases desc with
     | bool=>
       obtain⟨b,rfl,_⟩:=DataW.trod_bool hu h
       exact⟨[.bool b],by simp[TV,hu],rfl,rfl,fun φ=>by simp[ag,aj]⟩
     | int k=>
       obtain⟨m,rfl,_,hw⟩:=DataW.trod_int hu h
       exact⟨[.int k m],by simp[TV,hu,hw],rfl,rfl,fun φ=>by simp[ag,aj]⟩
     | string=>
       obtain⟨s,rfl,_,hm⟩:=DataW.trod_string hu h
       exact⟨[.str s.data.toList],by simp only[TV,hu];exact⟨_,rfl,by simpa using hm⟩,rfl,rfl,fun φ=>by simp only[ag,aj];exact⟨⟨s,rfl,rfl⟩,trivial⟩⟩
     | slice e=>
       simp only[Bool.and_eq_true,decide_eq_true_eq] at hp
       obtain⟨⟨_,IU⟩,he⟩:=hp
       have lD:e ∈ S:=by simpa using he
       rcases DataW.trod_slice hu h with⟨rfl,_⟩ | ⟨a,len,cap,elems,rest,m,hn,rfl,_,hb,hl,hm,hlen,sO,_,_⟩
       ·exact⟨[.nils],by simp[TV,hu],rfl,rfl,fun φ=>by simp only[ag,aj];exact⟨⟨none,rfl⟩,trivial⟩⟩
       ·obtain rfl:n=m:=abV
        have each: ∀i,i<len→ ∃q:V×Value,(∃ws,TV X.P n e ws∧q.1=xP X.P e ws)∧q.1.aw=true∧q.1.dh=true∧(∀φ,aj (free X) (still w φ) q.1 q.2)∧
          q.2.cells.size=X.P.cellsOf e∧ ∀j c,q.2.cells[j]? =some c→w.cell? ((a.add (i*X.P.cellsOf e)).add j)=some c:=by
         intro i hi
         have h1:=sO i hi
         rw[aiW abV] at h1
         rw[Option.bind_eq_some_iff] at h1
         obtain⟨cU,hc,lE⟩:=h1
         obtain⟨_,iB,kj⟩:=World.cells?_some hc
         obtain⟨ws,g1,g2,g3,g4⟩:=ih e cU _ lD lE
         have o9:ws.length=cU.length:=(g4 (fun _=> ⟨0,0,0⟩)).length
         have F8: ∀ (v:Value),v.cells.toList=cU→v.cells.size=X.P.cellsOf e∧ ∀j c,v.cells[j]? =some c→w.cell? ((a.add (i*X.P.cellsOf e)).add j)=some c:=by
          intro v hv
          have hs:v.cells.size=cU.length:=by rw[←hv];simp
          refine⟨by rw[hs,iB],fun j c hj=> ?_⟩
          have Tr:cU[j]? =some c:=by rw[←hv];simpa using hj
          rw[kj j (by have:=(aiS.1 Tr).1;omega)];exact Tr
         have ZW: (∃fs,X.P.underlying e=some (.struct fs))∨(∃k e',X.P.underlying e=some (.array k e'))∨xP X.P e ws=ws.headD dO∧ws.length=1:=by
          have Ee:=aiY.1 hS e lD
          unfold F7 at Ee
          cases hue:X.P.underlying e with
          | none=>rw[hue] at Ee;simp at Ee
          | some d=>
            rw[hue] at Ee
            cases d<;>simp at Ee
            case struct fs=>exact .inl ⟨fs,rfl⟩
            case array k e'=>exact .inr (.inl ⟨k,e',rfl⟩)
            all_goals exact .inr (.inr ⟨by simp[xP,hue],by simp_all⟩)
         have asAgg:xP X.P e ws= .agg ws→ ∃q:V×Value,(∃ws,TV X.P n e ws∧q.1=xP X.P e ws)∧q.1.aw=true∧q.1.dh=true∧(∀φ,aj (free X) (still w φ) q.1 q.2)∧
            q.2.cells.size=X.P.cellsOf e∧ ∀j c,q.2.cells[j]? =some c→w.cell? ((a.add (i*X.P.cellsOf e)).add j)=some c:=by
          intro Bj
          refine⟨(xP X.P e ws,.agg cU.toArray),⟨ws,g1,rfl⟩,?_,?_,fun φ=> ?_,F8 _ (by simp[Value.cells])⟩
          ·simp only[Bj,V.aw,g3]
          ·simp[Bj,V.dh,V.isAgg]
          ·simp only[Bj,aj];exact⟨g2,_,rfl,by simpa using g4 φ⟩
         rcases ZW with⟨fs,hs⟩ | ⟨k,e',hs⟩ | ⟨Bj,h1⟩
         ·exact asAgg (by simp[xP,hs])
         ·exact asAgg (by simp[xP,hs])
         ·match ws,h1,cU,o9,g1,g2,g3,g4,F8 with
          | [x],_,[c],_,g1,g2,g3,g4,F8=>
            have g4': ∀φ,aj (free X) (still w φ) x c:=fun φ=>by have:=g4 φ;simp only[ag] at this;exact this.1
            have g2':x.aT=true:=by simpa using g2
            refine⟨(x,c),⟨[x],g1,by simp[Bj]⟩,by simpa [V.al] using g3,by simp[V.dh,g2'],g4',F8 c ?_⟩
            rw[((g4' (fun _=> ⟨0,0,0⟩)).pw g2').2]
        obtain⟨qs,q1,q2⟩:=MZ len each
        refine⟨[.lit (X.P.cellsOf e) (qs.map (·.1))],?_,rfl,rfl,fun φ=> ?_⟩
        ·simp only[TV,hu]
         refine .inr ⟨_,rfl,by simp[q1];omega,fun x hx=> ?_⟩
         obtain⟨q,hq,rfl⟩:=ai9.1 hx
         obtain⟨i,hi⟩:=aji.1 hq
         exact(q2 i q hi).1
        ·simp only[   ag,aj,and_true]
         refine⟨I2 fun x hx=> ?_,?_,some a,cap,qs.map (·.2),by simp[q1],by simp[q1];omega,?_,?_⟩
         ·obtain⟨q,hq,rfl⟩:=ai9.1 hx
          obtain⟨i,hi⟩:=aji.1 hq
          exact(q2 i q hi).2.1
         ·rw[aiY]
          intro x hx
          obtain⟨q,hq,rfl⟩:=ai9.1 hx
          obtain⟨i,hi⟩:=aji.1 hq
          exact(q2 i q hi).2.2.1
         ·refine ag.BG abW fun i y u hy hu=> ?_
          rw[List.getElem?_map] at hy hu
          cases hq:qs[i]? with
          | none=>simp[hq] at hy
          | some q=>
            simp[hq] at hy hu
            subst hy hu
            exact(q2 i q hq).2.2.2.1 φ
         ·cases qs with
          | nil=>exact .inl rfl
          | cons q0 qs=>
            right
            have fP: ∀ (i:Nat) (q:V×Value),(q0::qs)[i]? =some q→ ∀j c,q.2.cells[j]? =some c→w.cell? ((a.add (i*X.P.cellsOf e)).add j)=some c:=fun i q hi=> (q2 i q hi).2.2.2.2.2
            have bI: ∀ (i:Nat) (q:V×Value),(q0::qs)[i]? =some q→q.2.cells.size=X.P.cellsOf e:=fun i q hi=> (q2 i q hi).2.2.2.2.1
            have h0:=fP 0 q0 rfl 0 (q0.2.cells[0]'(by rw[bI 0 q0 rfl];exact IU)) (ajd _)
            obtain⟨ab,ao,asp⟩:=a
            have vD:asp=none∧ab<w.heap.size:=by
             simp only[Nat.zero_mul,Addr.add,if_true,World.cell?] at h0
             split at h0
             ·      rename_i c T f hh
                    split at h0
                    ·simp at h0
                    ·rename_i hn
                     exact⟨by cases asp<;>simp_all,(aiV.1 hh).1⟩
             ·simp at h0
            obtain⟨rfl,bl⟩:=vD
            refine⟨ab,ao,rfl,?_,bl,fun i v hv=> ?_⟩
            ·rintro(⟨r,h1,_⟩ | h)
             ·simp[bH] at h1
             ·exact h
            ·rw[     List.getElem?_map] at hv
             cases hq: (q0::qs)[i]? with
             | none=>simp[hq] at hv
             |      some q=>
                    simp[hq] at hv
                    subst hv
                    refine⟨bI i q hq,fun j c hc=> ?_⟩
                    have:=fP i q hq j c hc
                    have u4: ∀o m,Addr.add ⟨ab,o,none⟩ m=⟨ab,o+m,none⟩:=by
                     intro o m
                     simp only[Addr.add]
                     split
                     ·rename_i h0;subst h0;rfl
                     ·rfl
                    rw[u4,u4] at this
                    exact this
     | struct fs=>
       simp only[Bool.and_eq_true,beq_iff_eq] at hp
       obtain⟨MY,iO⟩:=hp
       obtain⟨xs,m,hm,_,hlen,Uz,hf⟩:=DataW.trod_struct hu h
       obtain rfl:n=m:=abV
       have key: ∀f ∈ fs.toList,∃vs,Good X w n f.type vs ((cs.drop f.offset).take (X.P.cellsOf f.type)):=by
        intro f hfm
        obtain⟨i,hi⟩:=aji.1 hfm
        have ON:fs[i]? =some f:=by simpa using hi
        have h1:=hf i f ON
        have Cw:i<xs.length:=by rw[Uz];exact(aiV.1 ON).1
        rw[aiW Cw] at h1
        exact ih f.type _ _ (by have:=aiY.1 iO f hfm;simpa using this) h1
       obtain⟨vs,k1,k2,k3,k4⟩:=yO MY hlen key
       exact⟨vs,by simp only[TV,hu];exact k1,k2,k3,fun φ=>by simpa using k4 φ⟩
     | array k e=>
       simp only[Bool.and_eq_true,beq_iff_eq] at hp
       obtain⟨he,bI⟩:=hp
       obtain⟨xs,m,hm,_,hlen,Uz,hf⟩:=DataW.trod_array hu h
       obtain rfl:n=m:=abV
       have key: ∀i,i< 0+k→ ∃vs,Good X w n e vs ((cs.drop (i*X.P.cellsOf e)).take (X.P.cellsOf e)):=by
        intro i hi
        have h1:=hf i abV
        rw[aiW abV] at h1
        exact ih e _ _ (by simpa using he) h1
       obtain⟨vs,k1,k2,k3,k4⟩:=B8 k 0 (by rw[hlen,bI];simp) key
       exact⟨vs,by simp only[TV,hu];exact k1,k2,k3,fun φ=>by simpa using k4 φ⟩
     | _=>simp at hp
where
 I2 {cs:List V} (h: ∀x ∈ cs,V.aw x=true):V.al cs=true:=by
  induction cs with
  | nil=>rfl
  | cons c cs ih=>simp only[V.al,Bool.and_eq_true];exact⟨h c abW,ih fun x hx=>h x (by simp[hx])⟩
end
end Go.AM
namespace Go.AM
open Go Go.RowKit
def LA (X:TrEnv) (g:Nat) (af:aQ):Prop:= ∃F fn h c,X.fH F=some g∧X.P.funcs[F]? =some fn∧(fn.name== "runtime.NumGoroutine")=false∧fn.body=some c∧EP X h fn=some af∧af.nparams≤fn.ntmps
def kI (X:TrEnv):List (Nat×aQ)→Prop
 | []=>True
 | p::ps=>LA X p.1 p.2∧kI X ps
def M0 (X:TrEnv) (g:Nat) (fn:List V→Option eZ):Prop:= ∃F,X.fH F=some g∧ ∀asq res,fn asq=some res→bJ X F asq res
def rC (X:TrEnv):List (Nat× (List V→Option eZ))→Prop
 | []=>True
 | p::ps=>M0 X p.1 p.2∧rC X ps
theorem kI.mem {X:TrEnv}: ∀ {tab:List (Nat×aQ)},kI X tab→ ∀p ∈ tab,LA X p.1 p.2
 | [],_,p,hp=>by simp at hp
 | q::qs,h,p,hp=>by
   rcases ai0.1 hp with rfl| hp
   ·exact h.1
   ·exact kI.mem h.2 p hp
theorem rC.mem {X:TrEnv}: ∀ {tab:List (Nat× (List V→Option eZ))},rC X tab→ ∀p ∈ tab,M0 X p.1 p.2
 | [],_,p,hp=>by simp at hp
 | q::qs,h,p,hp=>by
   rcases ai0.1 hp with rfl| hp
   ·exact h.1
   ·exact rC.mem h.2 p hp
def M1 (X:TrEnv) (g:Nat) (h:Uu):Prop:= ∃F,X.fH F=some g∧ ∀C:bo,(∀f F asq res,X.fH F=some f→C f asq=some res→bJ X F asq res)→ ∀asq res,h.h C asq=some res→bJ X F asq res
def rD (X:TrEnv):List (Nat×Uu)→Prop
 | []=>True
 | p::ps=>M1 X p.1 p.2∧rD X ps
theorem rD.mem {X:TrEnv}: ∀ {tab:List (Nat×Uu)},rD X tab→ ∀p ∈ tab,M1 X p.1 p.2
 | [],_,p,hp=>by simp at hp
 | q::qs,h,p,hp=>by
   rcases ai0.1 hp with rfl| hp
   ·exact h.1
   ·exact rD.mem h.2 p hp
def vH (X:TrEnv) (g:Nat) (it:List V→Option (List (List V))):Prop:= ∃F,X.fH F=some g∧ ∀caps xs,it caps=some xs→ ∀ (B:Nat→Prop) (K:Nat×Nat) (μ:Mu) (lb:Array Value),ag ⟨X,B,K⟩ μ caps lb.toList→bk ⟨X,B,K⟩ μ→zG ⟨X,B,K⟩ μ F lb xs
def nG (X:TrEnv):List (Nat× (List V→Option (List (List V))))→Prop
 | []=>True
 | p::ps=>vH X p.1 p.2∧nG X ps
theorem nG.mem {X:TrEnv}: ∀ {tab:List (Nat× (List V→Option (List (List V))))},nG X tab→ ∀p ∈ tab,vH X p.1 p.2
 | [],_,p,hp=>by simp at hp
 | q::qs,h,p,hp=>by
   rcases ai0.1 hp with rfl| hp
   ·exact h.1
   ·exact nG.mem h.2 p hp
def im:List Nat→Bool
 | []=>true
 | x::xs=> !xs.contains x &&im xs
theorem fX: ∀ {l:List Nat},im l=true→ ∀ {i j x:Nat},l[i]? =some x→l[j]? =some x→i=j
 | [],_,i,j,x,h,_=>by simp at h
 | y::l,hd,i,j,x,hi,hj=>by
   simp only[im,Bool.and_eq_true,ajJ] at hd
   have ij: ∀k:Nat,l[k]? =some y→False:=fun k hk=>by
     have:l.contains y=true:=by simpa using List.mem_of_getElem? hk
     rw[hd.1] at this;simp at this
   cases i with
   | zero=>
     cases j with
     | zero=>rfl
     | succ j=>simp at hi hj;subst hi;exact(ij j hj).elim
   | succ i=>
     cases j with
     | zero=>simp at hi hj;subst hj;exact(ij i hi).elim
     | succ j=>simp at hi hj;rw[fX hd.2 hi hj]
def X5 (X:TrEnv) (g:Nat) (h:Yb):Prop:= ∃F,X.fH F=some g∧xN X F h
def LB (X:TrEnv):List (Nat×Yb)→Prop
 | []=>True
 | p::ps=>X5 X p.1 p.2∧LB X ps
theorem LB.mem {X:TrEnv}: ∀ {tab:List (Nat×Yb)},LB X tab→ ∀p ∈ tab,X5 X p.1 p.2
 | [],_,p,hp=>by simp at hp
 | q::qs,h,p,hp=>by
   rcases ai0.1 hp with rfl| hp
   ·exact h.1
   ·exact LB.mem h.2 p hp
theorem Ew {P:Program} {fl:List Nat} {tl:List (Nat×Nat)} (hf:im fl=true) (ht:im (tl.map (·.2))=true) (hm:P.follows .mixedOrders=true) {tab:List (Nat×aQ)} {ext:List (Nat× (List V→Option eZ))} {hyb:List (Nat×Uu)} {iter:List (Nat× (List V→Option (List (List V))))} {em:List (Nat×Yb)}:
  let X:TrEnv:=⟨P,fun F=>fl[F]?,fun t=> (tl.find? (·.1==t)).map (·.2)⟩
  kI X tab→rC X ext→rD X hyb→nG X iter→LB X em→xO X (mkEM tab ext hyb iter em):=by
 intro X h1 h2 h3 h4 h5
 have rE: ∀F F' g,X.fH F=some g→X.fH F'=some g→F=F':=fun F F' g h h'=>fX hf h h'
 refine⟨fun t1 t2 k h h'=> ?_,hm,fun f af F h hF=> ?_,fun f asq res F h hF=> ?_,fun g F caps xs h hF=> ?_,fun f F g h hF=> ?_,fun f g F h hF C hC asq res hr=> ?_⟩
 ·simp only[X,aiU] at h h'
  obtain⟨p,hp,rfl⟩:=h
  obtain⟨q,hq,hqp⟩:=h'
  have e1:=akv hp
  have e2:=akv hq
  obtain⟨i,hi⟩:=aji.1 (ajK hp)
  obtain⟨j,hj⟩:=aji.1 (ajK hq)
  have:i=j:=fX ht (i:=i) (j:=j) (x:=p.2) (by simp[hi]) (by simp[hj,hqp])
  subst this
  rw[hi] at hj;injection hj with hj;subst hj
  simp at e1 e2;exact e1.symm.trans e2
 ·simp only[mkEM,aaI,aiU] at h
  obtain⟨p,hp,rfl⟩:=h
  have e1:=akv hp
  simp at e1;subst e1
  obtain⟨F',fn,hh,c,k1,k2,k3,k4,k5,k6⟩:=kI.mem h1 p (ajK hp)
  obtain rfl:=rE F F' _ hF k1
  exact⟨fn,hh,c,k2,k3,k4,k5,k6⟩
 ·simp only[mkEM,W7] at h
  split at h
  ·rename_i p hp
   have e1:=akv hp
   simp at e1;subst e1
   obtain⟨F',k1,k2⟩:=rC.mem h2 p (ajK hp)
   obtain rfl:=rE F F' _ hF k1
   exact k2 asq res h
  ·simp at h
 ·simp only[mkEM,Qh] at h
  split at h
  ·rename_i p hp
   have e1:=akv hp
   simp at e1;subst e1
   obtain⟨F',k1,k2⟩:=nG.mem h4 p (ajK hp)
   obtain rfl:=rE F F' _ hF k1
   exact k2 caps xs h
  ·simp at h
 ·simp only[mkEM,Qi,aiU] at h
  obtain⟨p,hp,rfl⟩:=h
  have e1:=akv hp
  simp at e1;subst e1
  obtain⟨F',k1,k2⟩:=LB.mem h5 p (ajK hp)
  obtain rfl:=rE F F' _ hF k1
  exact k2
 ·simp only[mkEM,LS,aiU] at h
  obtain⟨p,hp,rfl⟩:=h
  have e1:=akv hp
  simp at e1;subst e1
  obtain⟨F',k1,k2⟩:=rD.mem h3 p (ajK hp)
  obtain rfl:=rE F F' _ hF k1
  exact k2 C hC asq res hr
theorem T2 {P:Program} {fl:List Nat} {tl:List (Nat×Nat)} (hf:im fl=true) (ht:im (tl.map (·.2))=true) (hm:P.follows .mixedOrders=true) {tab:List (Nat×aQ)} {ext:List (Nat× (List V→Option eZ))} {hyb:List (Nat×Uu)} {iter:List (Nat× (List V→Option (List (List V))))}:
  let X:TrEnv:=⟨P,fun F=>fl[F]?,fun t=> (tl.find? (·.1==t)).map (·.2)⟩
  kI X tab→rC X ext→rD X hyb→nG X iter→xO X (mkE tab ext hyb iter):=
 fun h1 h2 h3 h4=>Ew hf ht hm h1 h2 h3 h4 (em:=[]) trivial
theorem I3 {μ μ':Mu} (h:Le μ μ') (ij: ∀b,¬μ.own b):Below μ.w.heap.size μ.w μ'.w:=
 ⟨h.os,h.tape,h.output,h.size,fun k hk=> (h.bS k hk (ij k)).1⟩
theorem sB {X:TrEnv} {E:Env} (hE:xO X E) {F g:Nat} (hF:X.fH F=some g) {fn:Func} (mS:X.P.funcs[F]? =some fn) (iu: (fn.name== "runtime.NumGoroutine")=false) {cd:Code} (gv:fn.body=some cd)
   {args:List V} {b:Bool} (kY:Ev E g args ⟨.bool b,[]⟩) (hp:V.al args=true) {w:World} {vals:List Value} (hv: ∀φ,ag (free X) (still w φ) args vals):
   Calls X.P F vals.toArray w fun e w'=>e= .returned (.bool b)∧Below w.heap.size w w'∧ ∀a,a.block<w.heap.size→w'.frozen? a=w.frozen? a:=by
 obtain⟨n,hn⟩:=kY
 have hs:bJ X F args ⟨.bool b,[]⟩:=B7 hE n g F args _ hF hn
 have hO: (enter args).O=fun _=>bH:=wx hp
 have hT: ∀ (t:Nat) (a:V),args[t]? =some a→(enter args).T t=a:=fun t a ha=>by rw[ef hp];simp[List.getD,ha]
 have BA:=hv (fun _=> ⟨0,0,0⟩)
 have hU:=hs (fun _=>False) (0,0) w (fun _=> ⟨0,0,0⟩) vals BA.length.symm (fun t v' zB=>by
   have hl:t<args.length:=by rw[BA.length];exact(aiS.1 zB).1
   obtain⟨u,hu,bp⟩:=BA.get (aiW hl)
   rw[zB] at hu;injection hu with hu;subst hu
   rw[hT t _ (aiW hl),hO];exact bp) (by
   rw[hO]
   exact⟨fun r es h=>by simp[bH] at h,fun r1 r2 _ h=>by simp[bH] at h,fun r h=>by simp[bH] at h,fun b h=>h.elim⟩)
 have hcf: (callFunc F vals.toArray).run X.P w= .ok (.enter F vals.toArray) w:=by
   simp[callFunc,Sem.run_bind,program,Sem.run,mS,gv]
   simpa using iu
 rw[hcf] at hU
 simp only[ub] at hU
 refine Calls.mono hU fun e w' he=> ?_
 cases e with
 | panicked c=>exact he.elim
 | outgrown=>exact he.elim
 | returned val=>
   obtain⟨φ',T',O',v0,refs,k1,k2,k3,k4,k5,k6⟩:=he
   have ij: ∀b,¬ (Mu.mk w (fun _=> ⟨0,0,0⟩) (enter args).O).own b:=fun b=>by rw[hO];rintro⟨r,h,_⟩;simp[bH] at h
   refine⟨?_,I3 k1 ij,k1.frozen⟩
   ·have:=(k4.adS k2 k3).pure rfl
    simp only[aj] at this
    rw[this]
end Go.AM
namespace Go.AM
open Ieee
theorem ux {n k:Nat} (h:n< 2 ^ k) (h0:n≠0):n.log2<k:=(Nat.log2_lt h0).2 h
theorem LC {mag:Nat}:Toward.even.cut false (mag<<< (52 - mag.log2)) (mag.log2 - 52)≤9007199254740992:=by
 have h1:mag< 2 ^ (mag.log2+1):=Nat.lt_log2_self
 have key:mag<<< (52 - mag.log2) / (1 <<< min (mag.log2 - 52) ((mag<<< (52 - mag.log2)).log2+2)) < 9007199254740992:=by
  by_cases he:mag.log2≤52
  ·have e2:mag.log2 - 52=0:=abV
   rw[e2,Nat.zero_min]
   rw[akA,akA,Nat.pow_zero,Nat.mul_one,Nat.div_one]
   calc mag*2 ^ (52 - mag.log2) < 2 ^ (mag.log2+1)*2 ^ (52 - mag.log2):=Nat.mul_lt_mul_of_pos_right h1 (Nat.two_pow_pos _)
    _=2 ^ 53:=by rw[←Nat.pow_add];congr 1;omega
    _=9007199254740992:=aiO
  ·have e1:52 - mag.log2=0:=abV
   rw[e1]
   simp only[Nat.shiftLeft_zero]
   rw[Nat.min_eq_left abV]
   simp only[akA,Nat.one_mul]
   refine Nat.div_lt_of_lt_mul ?_
   calc mag< 2 ^ (mag.log2+1):=h1
    _=2 ^ (mag.log2 - 52)*2 ^ 53:=by rw[←Nat.pow_add];congr 1;omega
    _=2 ^ (mag.log2 - 52)*9007199254740992:=by congr 1
 unfold Toward.cut
 simp only
 generalize mag<<< (52 - mag.log2) / (1 <<< min (mag.log2 - 52) ((mag<<< (52 - mag.log2)).log2+2))=low at key ⊢
 have hb: ∀b:Bool,low+b.toNat≤9007199254740992:=fun b=>by have:=Bool.toNat_le b;omega
 exact hb _
theorem tp {mag:Nat} {place:Int} (h0:mag≠0) (h1: -1000≤place+mag.log2) (h2:place+mag.log2≤200):
  ∃w:Nat,double.nearest false mag place=w∧w≤4503599627370496*((place+mag.log2+1022).toNat+2):=by
 refine⟨_,rfl,?_⟩
 unfold Format.nearest
 rw[if_neg h0]
 have e1:double.leastPlace= -1074:=by simp[Format.leastPlace,double]
 have e2:double.fractionBits=52:=rfl
 have e3:double.binade=4503599627370496:=by simp[Format.binade,double]
 have e4:max (place+(mag.log2:Int) - (double.fractionBits:Nat)) double.leastPlace=place+mag.log2 - 52:=by
  rw[e1,e2];omega
 rw[e4]
 simp only[Format.word,e1,e3]
 have a1: (place - (place+(mag.log2:Int) - 52)).toNat=52 - mag.log2:=abV
 have a2: (place+(mag.log2:Int) - 52 - place).toNat=mag.log2 - 52:=abV
 have a3: (place+(mag.log2:Int) - 52 - -1074).toNat=(place+mag.log2+1022).toNat:=by congr 1;omega
 rw[a1,a2,a3]
 have hk:=LC (mag:=mag)
 simp only[ai3,if_false]
 refine ajb (Nat.min_le_left _ _) ?_
 rw[Nat.mul_add,akm]
 exact Nat.add_le_add_left hk _
theorem lp:double.leastPlace= -1074:=by simp[Format.leastPlace,double]
theorem bi:double.binade=4503599627370496:=by simp[Format.binade,double]
theorem sw:double.signWeight=9223372036854775808:=by simp[Format.signWeight,double]
theorem ir:double.infRung=9218868437227405312:=by simp[Format.infRung,Format.binade,double]
theorem B9 {w T:Nat} (hT:w≤4503599627370496*(T+2)) (hT2:T≤1290): ∃m p,double.read w= .number false m p∧m< 9007199254740992∧ -1074≤p∧p≤ -1072+(T:Int):=by
 have hq:w / 4503599627370496≤T+2:=Nat.div_le_of_le_mul hT
 have h:w≤4503599627370496*1292:=ajb hT (Nat.mul_le_mul_left _ abV)
 have bl:w< 9223372036854775808:=Nat.lt_of_le_of_lt h aiO
 have jU:w< 9218868437227405312:=Nat.lt_of_le_of_lt h aiO
 have h1:w / 9223372036854775808=0:=Nat.div_eq_of_lt bl
 have h2:w % 9223372036854775808=w:=akh bl
 have OF: (w / 9223372036854775808 % 2==1)=false:=by rw[h1];rfl
 unfold Format.read
 simp only[lp,bi,sw,ir,h2,OF]
 by_cases hb:w< 4503599627370496
 ·simp only[hb,if_true]
  exact⟨w,-1074,rfl,Nat.lt_trans hb aiO,aiO,by clear h1 h2 OF hb h bl jU hq hT;omega⟩
 ·have hc:=jU
  simp only[hb,hc,if_true,if_false]
  refine⟨4503599627370496+w % 4503599627370496,-1074+((w / 4503599627370496 - 1:Nat):Int),rfl,?_,?_,?_⟩
  ·have h9:=Nat.mod_lt w (show 0 < 4503599627370496 by decide)
   clear h1 h2 OF hc hb h bl jU hT hq
   generalize w % 4503599627370496=r at h9 ⊢
   omega
  ·clear h1 h2 OF hc hb h bl jU hT hq
   generalize w / 4503599627370496 - 1=q
   omega
  ·clear h1 h2 OF hc hb h bl jU hT
   generalize w / 4503599627370496=q at hq ⊢
   omega
theorem rF (n:Nat): ∀ (todo root:Nat),root*root≤n→Datum.rootFrom n todo root*Datum.rootFrom n todo root≤n
 | 0,root,h=>h
 | todo+1,root,h=>by
   unfold Datum.rootFrom
   by_cases h': (root+1 <<< todo)*(root+1 <<< todo)≤n
   ·simp only[h',if_true];exact rF n todo _ h'
   ·simp only[h',if_false];exact rF n todo _ h
theorem GO {n:Int} (h0:0 <n) (h1:n≤9223372036854775807):
  ∃r m,FloatKind.f64.format.sqrt (FloatKind.f64.nearest n)=some r∧(FloatKind.f64.decode r).toInt .zero=some m∧0≤m∧m≤9223372036854775807:=by
 have ZC:n.natAbs≠0:=abV
 have aiH:n.natAbs.log2< 63:=ux (by
  have: (2:Nat) ^ 63=9223372036854775808:=aiO
  omega) ZC
 have eN:FloatKind.f64.nearest n=double.nearest false n.natAbs 0:=by
  have:decide (n< 0)=false:=by simp;omega
  simp only[FloatKind.nearest,FloatKind.encode,FloatKind.format,Format.write,this]
 obtain⟨w,hw,hwb⟩:=tp (mag:=n.natAbs) (place:=0) ZC abV abV
 obtain⟨m,p,hr,hm,Xu,hp⟩:=B9 hwb (by clear hwb;omega)
 clear hwb
 rw[eN,hw]
 have hpb:p≤13:=by clear hm;omega
 have fin: ∀ (mag:Nat) (place:Int),mag≠0→ -1000≤place+mag.log2→place+mag.log2≤59→
   ∃r k,double.write (.number false mag place)=r∧(double.read r).toInt .zero=some k∧0≤k∧k≤9223372036854775807:=by
  intro mag place g0 g1 g2
  obtain⟨w2,Jl,aak⟩:=tp (mag:=mag) (place:=place) g0 g1 abV
  obtain⟨m3,p3,VM,hm3,hp3,aiI⟩:=B9 aak (by clear aak;omega)
  clear aak
  have hp9:p3≤9:=abV
  refine⟨w2,_,Jl,by rw[VM];rfl,?_⟩
  have aiJ:Toward.zero.cut false (m3<<< p3.toNat) (-p3).toNat≤m3<<< p3.toNat:=by
   unfold Toward.cut
   simp only[Bool.toNat_false,akl]
   exact Nat.div_le_self _ _
  have hsh:m3<<< p3.toNat≤m3*512:=by
   rw[akA]
   refine Nat.mul_le_mul_left _ ?_
   calc 2 ^ p3.toNat≤2 ^ 9:=Nat.pow_le_pow_right abV abV
     _=512:=aiO
  simp only[signed,ai3,if_false,Nat.shiftLeft_zero]
  omega
 show ∃r k,(((double.read w).root (double.fractionBits+2)).map double.write)=some r∧(double.read r).toInt .zero=some k∧0≤k∧k≤9223372036854775807
 rw[hr]
 simp only[Datum.root]
 by_cases Jk:m=0
 ·subst Jk
  rw[if_pos rfl]
  exact⟨0,0,by simp[Format.write,Format.nearest,Format.word],aiO,aiO,aiO⟩
 ·rw[if_neg Jk]
  simp only[ai3,if_false]
  have e2:double.fractionBits=52:=rfl
  rw[e2]
  have Di:m.log2< 53:=ux (by
   have: (2:Nat) ^ 53=9007199254740992:=aiO
   omega) Jk
  generalize ain:2*(52+2) - m.log2+((p - (2*(52+2) - m.log2:Nat)) % 2).toNat=more
  have hmb:56≤more∧more≤109:=abV
  generalize hwh:Datum.rootFrom (m<<< more) ((m<<< more).log2 / 2+1) 0=whole
  have hle:whole*whole≤m<<< more:=by rw[←hwh];exact rF _ _ _ abW
  have hbound:whole< 2 ^ 81:=by
   rw[akA] at hle
   have h2:m*2 ^ more< 2 ^ 162:=by
     calc m*2 ^ more< 2 ^ 53*2 ^ more:=Nat.mul_lt_mul_of_pos_right (by
           have: (2:Nat) ^ 53=9007199254740992:=aiO
           omega) (Nat.two_pow_pos _)
      _=2 ^ (53+more):=by rw[←Nat.pow_add]
      _≤2 ^ 162:=Nat.pow_le_pow_right abV abV
   rcases akn whole (2 ^ 81) with h| h
   ·exact h
   · have:2 ^ 81*2 ^ 81≤whole*whole:=Nat.mul_le_mul h h
     have e: (2:Nat) ^ 81*2 ^ 81=2 ^ 162:=by rw[←Nat.pow_add]
     omega
  have IU:m<<< more≠0:=by
   rw[akA]
   exact Nat.mul_ne_zero Jk (by have:=Nat.two_pow_pos more;omega)
  generalize aal:2*whole+(whole*whole !=m<<< more).toNat=WJ
  have X6:WJ≠0:=by
   intro h
   rw[h] at aal
   have hw0:whole=0:=abV
   subst hw0
   have: (0*0 !=m<<< more)=true:=by simp;exact fun h=>IU h.symm
   rw[this] at aal
   simp at aal
  have ad0:WJ< 2 ^ 83:=by
   have hb: (whole*whole !=m<<< more).toNat≤1:=Bool.toNat_le _
   have e: (2:Nat) ^ 83=4*2 ^ 81:=aiO
   omega
  have Cj:WJ.log2< 83:=ux ad0 X6
  obtain⟨r,k,g1,g2,g3,g4⟩:=fin WJ ((p - more) / 2 - 1) X6 abV abV
  refine⟨r,k,?_,g2,g3,g4⟩
  simp only[ai4]
  exact congrArg some g1
end Go.AM
