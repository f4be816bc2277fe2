/- Texts of the proof. -/
import Derived.Test.YtdifmldbllaeiaaGreatOpsB
import Derived.Test.YtdifmldbllaeiaaGreatBase
import Derived.Laws.Externs
import Derived.Laws.Cover3
import GoSem.Extern.MathSqrt
import Derived.ProofKit
import Derived.ChangeSame
import Derived.ChangeArms
import Derived.OpenShut
import Derived.Deep.Slices
import Derived.Carry
set_option linter.unusedSimpArgs false
set_option linter.unusedVariables false
namespace Go.AM
open Go Go.RowKit
def sC (P:Program) (r:Result Next) (R:Value→World→Prop):Prop:=
 match r with
 | .ok (.value v) w'=>R v w'
 | .ok (.enter f args) w'=>Calls P f args w' fun| .returned v,Kb=>R v Kb| _,_=>False
 | _=>False
theorem sC.upon {P:Program} {r:Result Next} {R:Value→World→Prop} (h:sC P r R) {o:Oper} {a:Go.Act} {next:Go.Act→World→Prop} {Q:Go.Exit→Go.Act→World→Prop}
  (hn: ∀v w,R v w→next (a.put o.dst v) w):o.upon P a next Q r:=by
 unfold sC at h
 split at h
 ·exact hn _ _ h
 ·rw[Oper.upon_enter]
  refine Calls.mono h fun e w' he=> ?_
  cases e with
  | returned v=>exact hn _ _ he
  | panicked c=>exact he.elim
  | outgrown=>exact he.elim
 ·exact h.elim
def V.jc:V→Bool
 | .own .. =>true
 | c=>c.aR
theorem uF {c:V} (h:c.aR=true):c.jc=true:=by cases c<;>simp_all[V.aR,V.jc]
inductive dv (n:Nat) (σ:St):V→V→List Nat→Prop
 | one {v0 v:V} {rs:List Nat} (h:dH n σ v0=some (v,rs)):dv n σ v0 v rs
 | many {vs vs':List V} {rs:List Nat} (h:dp n σ vs=some (vs',rs)):dv n σ (.tuple vs) (.tuple vs') rs
def bG (X:TrEnv) (F:FuncId) (args:List V) (res:eL):Prop:=
 ∀ (B:Nat→Prop) (K:Nat×Nat) (w:World) (φ0:Nat→Row) (vals:List Value),vals.length=args.length→
  (∀t v,vals[t]? =some v→aj ⟨X,B,K⟩ ⟨w,φ0,(enter args).O⟩ ((enter args).T t) v)→ba ⟨X,B,K⟩ ⟨w,φ0,(enter args).O⟩→
  sC X.P ((callFunc F vals.toArray).run X.P w) fun val w'=> ∃φ' T' O' v0 refs,Le ⟨w,φ0,(enter args).O⟩ ⟨w',φ',O'⟩∧ba ⟨X,B,K⟩ ⟨w',φ',O'⟩∧
     aj ⟨X,B,K⟩ ⟨w',φ',O'⟩ v0 val∧dv args.length ⟨T',O'⟩ v0 res.val refs∧distinct refs=true∧cI O' 0 args=some res.outs
inductive Tt (Y:Ctx) (μ:Mu) (n:Nat):V→List Nat→Value→Prop
 | pure {c:V} {val:Value} (hp:c.au=true) (h:aj Y μ c val):Tt Y μ n c [] val
 | sl {r g off len:Nat} {es:List V} {val:Value} (hr:r<n) (bo: (μ.O r).es=some es) (hg: (μ.O r).gen=g) (hl:off+len≤es.length) (h:aj Y μ (.sl r g off len) val):Tt Y μ n (.sl r g off len) [r] val
 | own {r g off len:Nat} {es:List V} {val:Value} (hr:n≤r) (bo: (μ.O r).es=some es) (gu: (μ.O r).fz=false) (hg: (μ.O r).gen=g) (hl:off+len≤es.length) (hp:V.ak (aF es off len)=true)
    (h:aj Y μ (.sl r g off len) val):Tt Y μ n (.own (μ.O r).sz (aF es off len)) [r] val
inductive AQ (Y:Ctx) (μ:Mu) (n:Nat):List V→List Nat→List Value→Prop
 | nil:AQ Y μ n [] [] []
 | cons {c:V} {rs rs':List Nat} {val:Value} {cs:List V} {vals:List Value} (h:Tt Y μ n c rs val) (hs:AQ Y μ n cs rs' vals):AQ Y μ n (c::cs) (rs++rs') (val::vals)
section
variable {Y:Ctx} {μ:Mu} {n:Nat}
theorem AQ.length {cs:List V} {rs:List Nat} {vals:List Value} (h:AQ Y μ n cs rs vals):cs.length=vals.length:=by
 induction h with
 | nil=>rfl
 | cons _ _ ih=>simp[ih]
theorem IN (ho:ba Y μ) {r g off len:Nat} {es:List V} {val:Value} (bo: (μ.O r).es=some es) (gu: (μ.O r).fz=true) (hg: (μ.O r).gen=g) (hl:off+len≤es.length)
  (hp:V.ak (aF es off len)=true) (h:aj Y μ (.sl r g off len) val):aj Y μ (.lit (μ.O r).sz (aF es off len)) val:=by
 simp only[aj] at h ⊢
 obtain⟨a,cap,rfl,hle,oO,bT⟩:=h
 obtain⟨a0,a1,a2⟩:=bT hg
 obtain⟨q1,q2,q3,q4⟩:=ho.row r es bo a0
 have oa: (aF es off len).length=len:=by simp[aF];omega
 have kq: (aF es off len).all V.da=true:=by
  simp only[af5] at q3 ⊢
  exact fun x hx=> (cm (q3 x (agF (agp hx)))).1
 by_cases GW:len=0
 ·exact⟨hp,kq,a,cap,[],by rw[oa],ae0,by simp[aF,GW,ag],.inl (by simpa using oa.trans GW)⟩
 ·rcases q4 with q4| ⟨cc,TT,vs,p1,p2,p3,p4⟩
  ·omega
  ·refine⟨hp,kq,a,cap,(vs.drop off).take len,by rw[oa],ae0,ag.take _ (ag.drop _ p3),.inr ⟨_,_,a2.resolve_left ae0,?_,(af1.1 p1).1,(p4.drop off).take len⟩⟩
   rintro(⟨r',k1,k2,k3,k4⟩ | hb)
   ·by_cases e:r'=r
    ·subst e;rw[gu] at k2;simp at k2
    ·exact ho.inj r' r e k1 (by simp[bo]) k3 ae0 k4
   ·exact ho.sS r (by simp[bo]) ae0 hb
theorem nI (ho:ba Y μ) {T:Nat→V} {c c':V} {rs:List Nat} {val:Value} (h:aj Y μ c val) (he:cz n ⟨T,μ.O⟩ c=some (c',rs)):Tt Y μ n c' rs val:=by
 unfold cz at he
 split at he
 ·rename_i r g off len
  simp only at he
  split at he
  ·rename_i es bo
   split at he
   ·rename_i hc
    obtain⟨c1,c2,c3,c4⟩:=hc
    split at he
    ·rename_i hr
     simp only[afY,af4] at he
     obtain⟨rfl,rfl⟩:=he
     exact .sl hr bo c1 c2 h
    ·rename_i hr
     split at he
     ·rename_i gu
      simp only[afY,af4] at he
      obtain⟨rfl,rfl⟩:=he
      exact .pure rfl (IN ho bo gu c1 c2 c4 h)
     ·rename_i gu
      simp only[afY,af4] at he
      obtain⟨rfl,rfl⟩:=he
      exact .own ae0 bo (by simpa using gu) c1 c2 c4 h
   ·simp at he
  ·simp at he
 ·split at he
  ·rename_i hp
   simp only[afY,af4] at he
   obtain⟨rfl,rfl⟩:=he
   exact .pure hp h
  ·simp at he
theorem jg (ho:ba Y μ) {T:Nat→V}: ∀ {cs cP:List V} {rs:List Nat} {vals:List Value},ag Y μ cs vals→cg n ⟨T,μ.O⟩ cs=some (cP,rs)→AQ Y μ n cP rs vals
 | [],cP,rs,[],_,he=>by simp[cg] at he;obtain⟨rfl,rfl⟩:=he;exact .nil
 | [],_,_,_::_,h,_=>by simp[ag] at h
 | _::_,_,_,[],h,_=>by simp[ag] at h
 | c::cs,cP,rs,v::vs,h,he=>by
   simp only[ag] at h
   simp only[cg] at he
   split at he
   ·rename_i c1 r1 XS WM h1 h2
    simp only[afY,af4] at he
    obtain⟨rfl,rfl⟩:=he
    exact .cons (nI ho h.1 h1) (jg ho h.2 h2)
   ·simp at he
inductive FN (Y:Ctx) (μ:Mu) (n:Nat):V→List Nat→Value→Prop
 | cell {c:V} {rs:List Nat} {val:Value} (h:Tt Y μ n c rs val):FN Y μ n c rs val
 | agg {cs:List V} {rs:List Nat} {vals:Array Value} (hc:cs.all V.jc=true) (h:AQ Y μ n cs rs vals.toList):FN Y μ n (.agg cs) rs (.agg vals)
inductive pN (Y:Ctx) (μ:Mu) (n:Nat):List V→List Nat→List Value→Prop
 | nil:pN Y μ n [] [] []
 | cons {c:V} {rs rs':List Nat} {val:Value} {cs:List V} {vals:List Value} (h:FN Y μ n c rs val) (hs:pN Y μ n cs rs' vals):pN Y μ n (c::cs) (rs++rs') (val::vals)
theorem uG {T:Nat→V} {O:Nat→Obj} {c c':V} {rs:List Nat} (he:cz n ⟨T,O⟩ c=some (c',rs)) (hc:c.aR=true):V.jc c'=true:=by
 unfold cz at he
 split at he
 ·simp only at he
  split at he
  ·split at he
   ·split at he
    ·simp only[afY,af4] at he
     obtain⟨rfl,rfl⟩:=he;rfl
    ·split at he
     ·simp only[afY,af4] at he
      obtain⟨rfl,rfl⟩:=he;rfl
     ·simp only[afY,af4] at he
      obtain⟨rfl,rfl⟩:=he;rfl
   ·simp at he
  ·simp at he
 ·split at he
  ·simp only[afY,af4] at he
   obtain⟨rfl,rfl⟩:=he
   exact uF hc
  ·simp at he
theorem lP {T:Nat→V} {O:Nat→Obj}: ∀ {cs cP:List V} {rs:List Nat},cg n ⟨T,O⟩ cs=some (cP,rs)→cs.all V.aR=true→
   cP.all V.jc=true
 | [],cP,rs,he,_=>by simp[cg] at he;obtain⟨rfl,rfl⟩:=he;rfl
 | c::cs,cP,rs,he,hc=>by
   simp only[agj,af2] at hc
   simp only[cg] at he
   split at he
   ·rename_i c1 r1 XS WM h1 h2
    simp only[afY,af4] at he
    obtain⟨rfl,rfl⟩:=he
    have i1:=uG h1 hc.1
    have i2:=lP h2 hc.2
    rw[agj,i2,agB]
    exact i1
   ·simp at he
theorem AQ.aV {cs:List V} {rs:List Nat} {vals:List Value} (h:AQ Y μ n cs rs vals) (hp:V.ak cs=true):ag Y μ cs vals∧rs=[]:=by
 induction h with
 | nil=>simp[ag]
 | cons h hs ih=>
   simp only[V.ak,af2] at hp
   obtain⟨i1,i2⟩:=ih hp.2
   cases h with
   | pure Dg hv=>simp only[ag];exact⟨⟨hv,i1⟩,by simpa using i2⟩
   | sl=>simp[V.au] at hp
   | own=>simp[V.au] at hp
theorem mS (ho:ba Y μ) {T:Nat→V} {v v':V} {rs:List Nat} {val:Value} (h:aj Y μ v val) (he:dH n ⟨T,μ.O⟩ v=some (v',rs)):FN Y μ n v' rs val:=by
 unfold dH at he
 split at he
 ·rename_i hp
  simp only[afY,af4] at he
  obtain⟨rfl,rfl⟩:=he
  exact .cell (.pure hp h)
 ·split at he
  ·simp only[aj] at h
   obtain⟨h1,vs,rfl,h2⟩:=h
   split at he
   ·rename_i cP rs' nM
    simp only[afY,af4] at he
    obtain⟨rfl,rfl⟩:=he
    exact .agg (lP nM h1) (jg ho h2 nM)
   ·simp at he
  ·simp only[aj] at h
   obtain⟨F,cv,rfl,h1,h2⟩:=h
   split at he
   ·rename_i cP rs' nM
    split at he
    ·rename_i hp
     simp only[afY,af4] at he
     obtain⟨rfl,rfl⟩:=he
     obtain⟨k1,k2⟩:=(jg ho h2 nM).aV hp
     subst k2
     refine .cell (.pure (by simpa [V.au] using hp) ?_)
     simp only[aj]
     exact⟨F,cv,rfl,h1,k1⟩
    ·simp at he
   ·simp at he
  ·exact .cell (nI ho h he)
theorem lG (ho:ba Y μ) {T:Nat→V}: ∀ {cs cP:List V} {rs:List Nat} {vals:List Value},ag Y μ cs vals→dp n ⟨T,μ.O⟩ cs=some (cP,rs)→pN Y μ n cP rs vals
 | [],cP,rs,[],_,he=>by simp[dp] at he;obtain⟨rfl,rfl⟩:=he;exact .nil
 | [],_,_,_::_,h,_=>by simp[ag] at h
 | _::_,_,_,[],h,_=>by simp[ag] at h
 | c::cs,cP,rs,v::vs,h,he=>by
   simp only[ag] at h
   simp only[dp] at he
   split at he
   ·rename_i c1 r1 XS WM h1 h2
    simp only[afY,af4] at he
    obtain⟨rfl,rfl⟩:=he
    exact .cons (mS ho h.1 h1) (lG ho h.2 h2)
   ·simp at he
end
end Go.AM
namespace Go.AM
open Go Go.RowKit
def eU (φ:Nat→Row) (ws:List eh) (i:Nat):Row:=
 match ws with
 | []=> ⟨0,0,0⟩
 | w::ws=>if w.i=i then(match w.fresh with| none=>φ w.r| some _=> ⟨0,0,0⟩) else eU φ ws i
inductive wU (X:Ctx) (μ:Mu) (r0 i:Nat) (rs:List Nat) (ws:List eh):V→Value→Prop
 | plain {a:V} {v:Value} (hp:V.au a=true) (hs:ke X μ rs a v):wU X μ r0 i rs ws a v
 | sl {r g off len:Nat} {es:List V} {v:Value} (hw: (⟨i,r,none⟩:eh) ∈ ws) (bo: (μ.O r).es=some es) (gu: (μ.O r).fz=false) (cE: (μ.O r).gen=g) (mr:V.ak es=true)
    (iM:off+len≤es.length) (hv:aj X μ (.sl r g off len) v):wU X μ r0 i rs ws (.msl (μ.O r).sz es off len) v
 | ptr {r g idx off:Nat} {es:List V} {v:Value} (hw: (⟨i,r,none⟩:eh) ∈ ws) (bo: (μ.O r).es=some es) (gu: (μ.O r).fz=false) (cE: (μ.O r).gen=g) (mr:V.ak es=true)
    (hv:aj X μ (.ptr r g idx off) v):wU X μ r0 i rs ws (.mptr (μ.O r).sz es idx off) v
 | fresh {sz:Nat} {v:Value} (hw: (⟨i,r0+i,some sz⟩:eh) ∈ ws) (bF:0 <sz) (hv: ∃a,v= .slice a 0 0):wU X μ r0 i rs ws (.msl sz [] 0 0) v
section
variable {X:Ctx} {μ:Mu} {r0:Nat}
theorem wU.more {i:Nat} {rs rs':List Nat} {ws D1:List eh} {a:V} {v:Value} (h:wU X μ r0 i rs ws a v) (h1: ∀r ∈ rs,r ∈ rs') (h2: ∀w ∈ ws,w ∈ D1):wU X μ r0 i rs' D1 a v:=by
 cases h with
 | plain hp hs=>exact .plain hp (hs.more h1)
 | sl hw a b c d e f=>exact .sl (h2 _ hw) a b c d e f
 | ptr hw a b c d f=>exact .ptr (h2 _ hw) a b c d f
 | fresh hw a b=>exact .fresh (h2 _ hw) a b
theorem lO.at {i:Nat} {aD:List V} {vs:List Value} {rs:List Nat} {ws:List eh} (h:lO X μ r0 i aD vs rs ws):
   aD.length=vs.length∧(∀w ∈ ws,i≤w.i)∧(∀t a,aD[t]? =some a→ ∃v,vs[t]? =some v∧wU X μ r0 (i+t) rs ws a v):=by
 induction h with
 | nil i=>simp
 | @plain i a v rs rs' aD vs ws hp hs h ih=>
   obtain⟨i1,i2,i3⟩:=ih
   refine⟨by simp[i1],fun w hw=>by have:=i2 w hw;omega,fun t b hb=> ?_⟩
   cases t with
   | zero=>simp at hb;subst hb;exact⟨v,afU,.plain hp (hs.more (by simp+contextual))⟩
   | succ t=>
     obtain⟨v',k1,k2⟩:=i3 t b (by simpa using hb)
     refine⟨v',by simpa using k1,?_⟩
     have e:i+(t+1)=i+1+t:=ae0
     rw[e];exact k2.more (by simp+contextual) (fun w hw=>hw)
 | @sl i r g off len es v rs aD vs ws bo gu cE mr iM hv h ih=>
   obtain⟨i1,i2,i3⟩:=ih
   refine⟨by simp[i1],fun w hw=> ?_,fun t b hb=> ?_⟩
   · rcases af7.1 hw with rfl| hw
     ·exact af6 _
     ·have:=i2 w hw;omega
   · cases t with
     | zero=>simp at hb;subst hb;exact⟨v,afU,.sl afU bo gu cE mr iM hv⟩
     | succ t=>
       obtain⟨v',k1,k2⟩:=i3 t b (by simpa using hb)
       refine⟨v',by simpa using k1,?_⟩
       have e:i+(t+1)=i+1+t:=ae0
       rw[e];exact k2.more (fun r hr=>hr) (fun w hw=>by simp[hw])
 | @ptr i r g idx off es v rs aD vs ws bo gu cE mr hv h ih=>
   obtain⟨i1,i2,i3⟩:=ih
   refine⟨by simp[i1],fun w hw=> ?_,fun t b hb=> ?_⟩
   · rcases af7.1 hw with rfl| hw
     ·exact af6 _
     ·have:=i2 w hw;omega
   · cases t with
     | zero=>simp at hb;subst hb;exact⟨v,afU,.ptr afU bo gu cE mr hv⟩
     | succ t=>
       obtain⟨v',k1,k2⟩:=i3 t b (by simpa using hb)
       refine⟨v',by simpa using k1,?_⟩
       have e:i+(t+1)=i+1+t:=ae0
       rw[e];exact k2.more (fun r hr=>hr) (fun w hw=>by simp[hw])
 | @fresh i sz v rs aD vs ws bF hv h ih=>
   obtain⟨i1,i2,i3⟩:=ih
   refine⟨by simp[i1],fun w hw=> ?_,fun t b hb=> ?_⟩
   · rcases af7.1 hw with rfl| hw
     ·exact af6 _
     ·have:=i2 w hw;omega
   · cases t with
     | zero=>simp at hb;subst hb;exact⟨v,afU,.fresh afU bF hv⟩
     | succ t=>
       obtain⟨v',k1,k2⟩:=i3 t b (by simpa using hb)
       refine⟨v',by simpa using k1,?_⟩
       have e:i+(t+1)=i+1+t:=ae0
       rw[e];exact k2.more (fun r hr=>hr) (fun w hw=>by simp[hw])
inductive MS:Nat→List eh→Prop
 | nil (i:Nat):MS i []
 | cons {i:Nat} {w:eh} {ws:List eh} (h:i≤w.i) (hs:MS (w.i+1) ws):MS i (w::ws)
theorem MS.le {i j:Nat} {ws:List eh} (h:MS j ws) (VG:i≤j):MS i ws:=by
 cases h with
 | nil=>exact .nil _
 | cons h hs=>exact .cons ae0 hs
theorem MS.mem {i:Nat} {ws:List eh} (h:MS i ws): ∀w ∈ ws,i≤w.i:=by
 induction h with
 | nil=>simp
 | cons h hs ih=>
   intro w hw
   rcases af7.1 hw with rfl| hw
   ·exact h
   ·have:=ih w hw;omega
theorem lO.inc {i:Nat} {aD:List V} {vs:List Value} {rs:List Nat} {ws:List eh} (h:lO X μ r0 i aD vs rs ws):MS i ws:=by
 induction h with
 | nil i=>exact .nil i
 | plain hp hs h ih=>exact ih.le ae0
 | sl _ _ _ _ _ _ h ih=>exact .cons afU ih
 | ptr _ _ _ _ _ h ih=>exact .cons afU ih
 | fresh _ _ h ih=>exact .cons afU ih
theorem jF {φ:Nat→Row} {i:Nat} {ws:List eh} (h:MS i ws): ∀w ∈ ws,eU φ ws w.i=(match w.fresh with| none=>φ w.r| some _=> ⟨0,0,0⟩):=by
 induction h with
 | nil=>simp
 | @cons i w ws h hs ih=>
   intro w' hw
   rcases af7.1 hw with rfl| hw
   ·simp[eU]
   ·have:=hs.mem w' hw
    rw[eU,if_neg ae0]
    exact ih w' hw
theorem MS.uniq {i:Nat} {ws:List eh} (h:MS i ws): ∀w ∈ ws,∀w' ∈ ws,w.i=w'.i→w=w':=by
 induction h with
 | nil=>simp
 | @cons i w ws h hs ih=>
   intro a ha b hb e
   rcases af7.1 ha with ha| ha<;>rcases af7.1 hb with hb| hb
   ·rw[ha,hb]
   ·have:=hs.mem b hb;subst ha;omega
   ·have:=hs.mem a ha;subst hb;omega
   ·exact ih a ha b hb e
theorem rP: ∀ {ws:List eh},distinct (ws.map (·.r))=true→ ∀w ∈ ws,∀w' ∈ ws,w.r=w'.r→w=w'
 | [],_,_,h,_,_,_=>by simp at h
 | w::ws,hd,a,ha,b,hb,e=>by
   simp only[List.map_cons,distinct,af2,agS,ahq,decide_eq_false_iff_not] at hd
   rcases af7.1 ha with ha| ha<;>rcases af7.1 hb with hb| hb
   ·rw[ha,hb]
   ·exact absurd (agk.2 ⟨b,hb,by rw[←e,ha]⟩) hd.1
   ·exact absurd (agk.2 ⟨a,ha,by rw[e,hb]⟩) hd.1
   ·exact rP hd.2 a ha b hb e
def c6 (X:Ctx) (μ:Mu) (rs:List Nat) (ws:List eh) (b:Nat):Prop:=
 X.Us b∨ ∃r,r ∉ rs∧r ∉ ws.map (·.r)∧(μ.O r).es.isSome=true∧(μ.O r).fz=false∧(μ.φ r).cap≠0∧(μ.φ r).bV=b
theorem kY {aD:List V} {vals:List Value} {rs:List Nat} {ws:List eh} (hp:lO X μ r0 0 aD vals rs ws) (j:Nat):
   (enter aD).O j=bE∨
   (∃r es,(⟨j,r,none⟩:eh) ∈ ws∧(μ.O r).es=some es∧(μ.O r).fz=false∧V.ak es=true∧((enter aD).O j).gen=0∧((enter aD).O j).sz=(μ.O r).sz∧((enter aD).O j).fz=false∧((enter aD).O j).es=some es∧eU μ.φ ws j=μ.φ r)∨
   (∃sz,(⟨j,r0+j,some sz⟩:eh) ∈ ws∧0 <sz∧((enter aD).O j).gen=0∧((enter aD).O j).sz=sz∧((enter aD).O j).fz=false∧((enter aD).O j).es=some []∧eU μ.φ ws j=⟨0,0,0⟩):=by
 obtain⟨hl,-,iG⟩:=hp.at
 have hi:=hp.inc
 cases ha:aD[j]? with
 | none=>left;simp[enter,ha]
 | some a=>
   obtain⟨v,hv,hA⟩:=iG j a ha
   simp only[agK] at hA
   cases hA with
   | plain mr hs=>
     left
     cases a<;>simp[V.au] at mr<;>simp[enter,ha]
   | @sl r g off len es v hw bo gu cE mr iM zp=>
     right;left
     exact⟨r,es,hw,bo,gu,mr,by simp[enter,ha],by simp[enter,ha],by simp[enter,ha],by simp[enter,ha],by have:=jF (φ:=μ.φ) hi _ hw;simpa using this⟩
   | @ptr r g idx off es v hw bo gu cE mr zp=>
     right;left
     exact⟨r,es,hw,bo,gu,mr,by simp[enter,ha],by simp[enter,ha],by simp[enter,ha],by simp[enter,ha],by have:=jF (φ:=μ.φ) hi _ hw;simpa using this⟩
   | @fresh sz v hw bF zp=>
     right;right
     exact⟨sz,hw,bF,by simp[enter,ha],by simp[enter,ha],by simp[enter,ha],by simp[enter,ha],by have:=jF (φ:=μ.φ) hi _ hw;simpa using this⟩
theorem vI {aD:List V} {vals:List Value} {rs:List Nat} {ws:List eh} (hp:lO X μ r0 0 aD vals rs ws) {b:Nat} (h: (⟨μ.w,eU μ.φ ws,(enter aD).O⟩:Mu).own b):
  ∃i r,(⟨i,r,none⟩:eh) ∈ ws∧(μ.O r).es.isSome=true∧(μ.O r).fz=false∧(μ.φ r).cap≠0∧(μ.φ r).bV=b:=by
 obtain⟨j,h1,h2,h3,h4⟩:=h
 simp only at h1 h2 h3 h4
 rcases kY hp j with h| ⟨r,es,k1,k2,k3,k4,k5,k6,k7,k8,k9⟩ | ⟨sz,k1,k2,k3,k4,k5,k6,k7⟩
 ·rw[h] at h1;simp[bE] at h1
 ·rw[k9] at h3 h4
  exact⟨j,r,k1,by simp[k2],k3,h3,h4⟩
 ·rw[k7] at h3;simp at h3
theorem Mh {aD:List V} {vals:List Value} {rs:List Nat} {ws:List eh} (ho:ba X μ) (hp:lO X μ r0 0 aD vals rs ws) (Aw:apart rs (ws.map (·.r))=true) {b:Nat}
  (h:Own ⟨X.toTrEnv,c6 X μ rs ws,X.tok⟩ ⟨μ.w,eU μ.φ ws,(enter aD).O⟩ b):
  Own X μ b∧ ∀r ∈ rs,(μ.O r).es.isSome=true→(μ.φ r).cap≠0→b≠(μ.φ r).bV:=by
 rcases h with h| h
 ·obtain⟨i,r,h1,h2,h3,h4,h5⟩:=vI hp h
  refine⟨.inl ⟨r,h2,h3,h4,h5⟩,fun r' vn k1 k2 e=> ?_⟩
  have cF:r≠r':=by
   rintro rfl
   have:=af5.1 Aw r (agk.2 ⟨_,h1,rfl⟩)
   simp[vn] at this
  exact ho.inj r r' cF h2 k1 h4 k2 (h5.trans e)
 ·rcases h with h| ⟨r,h0,h1,h2,h3,h4,h5⟩
  ·refine⟨.inr h,fun r' vn k1 k2 e=>ho.sS r' k1 k2 (e ▸ h)⟩
  ·refine⟨.inl ⟨r,h2,h3,h4,h5⟩,fun r' vn k1 k2 e=> ?_⟩
   have cF:r≠r':=fun e=>h0 (e ▸ vn)
   exact ho.inj r r' cF h2 k1 h4 k2 (h5.trans e)
theorem wV {aD:List V} {vals:List Value} {rs:List Nat} {ws:List eh} (ho:ba X μ) (hp:lO X μ r0 0 aD vals rs ws) (Aw:apart rs (ws.map (·.r))=true) (hd:distinct (ws.map (·.r))=true):
  vals.length=aD.length∧(∀t v,vals[t]? =some v→aj ⟨X.toTrEnv,c6 X μ rs ws,X.tok⟩ ⟨μ.w,eU μ.φ ws,(enter aD).O⟩ ((enter aD).T t) v)∧
    ba ⟨X.toTrEnv,c6 X μ rs ws,X.tok⟩ ⟨μ.w,eU μ.φ ws,(enter aD).O⟩:=by
 have jd:=fun b=>Mh (b:=b) ho hp Aw
 obtain⟨hl,-,iG⟩:=hp.at
 have hi:=hp.inc
 refine⟨hl.symm,fun t v hv=> ?_,?_⟩
 ·have ha:t<aD.length:=by rw[hl];exact(af0.1 hv).1
  obtain⟨v',xS,hA⟩:=iG t aD[t] (af3 ha)
  rw[hv] at xS;injection xS with xS;subst xS
  have Ay:aD[t]? =some aD[t]:=af3 ha
  simp only[agK] at hA
  generalize hae:aD[t]=a at hA Ay
  cases hA with
  | plain mr hs=>
    have: (enter aD).T t=a:=by cases a<;>simp[V.au] at mr<;>simp[enter,Ay]
    rw[this]
    exact hs _ _ rfl jd
  | @sl r g off len es v hw bo gu cE mr iM zp=>
    have e1: (enter aD).T t= .sl t 0 off len:=by simp[enter,Ay]
    have e2: ((enter aD).O t).gen=0∧((enter aD).O t).sz=(μ.O r).sz:=by simp[enter,Ay]
    have e3:eU μ.φ ws t=μ.φ r:=by have:=jF (φ:=μ.φ) hi _ hw;simpa using this
    rw[e1]
    simp only[aj] at zp ⊢
    obtain⟨a,cap,rfl,q1,q2,q3⟩:=zp
    refine⟨a,cap,rfl,q1,agI _,fun _=> ?_⟩
    rw[e2.2,e3];exact q3 cE
  | @ptr r g idx off es v hw bo gu cE mr zp=>
    have e1: (enter aD).T t= .ptr t 0 idx off:=by simp[enter,Ay]
    have e2: ((enter aD).O t).gen=0∧((enter aD).O t).sz=(μ.O r).sz:=by simp[enter,Ay]
    have e3:eU μ.φ ws t=μ.φ r:=by have:=jF (φ:=μ.φ) hi _ hw;simpa using this
    rw[e1]
    simp only[aj] at zp ⊢
    obtain⟨a,rfl,q2,q3⟩:=zp
    refine⟨a,rfl,agI _,fun _=> ?_⟩
    rw[e2.2,e3];exact q3 cE
  | @fresh sz v hw bF zp=>
    have e1: (enter aD).T t= .sl t 0 0 0:=by simp[enter,Ay]
    have e3:eU μ.φ ws t=⟨0,0,0⟩:=by have:=jF (φ:=μ.φ) hi _ hw;simpa using this
    rw[e1]
    obtain⟨a,rfl⟩:=zp
    simp only[aj]
    exact⟨a,0,rfl,af6 _,agI _,fun _=> ⟨by simp[enter,Ay,bF],by rw[e3],.inl rfl⟩⟩
 ·refine⟨fun j es bo=> ?_,fun j1 j2 cF h1 h2 h3 h4=> ?_,fun j h1 h2 hb=> ?_,fun b hb=> ?_⟩
  · rcases kY hp j with h| ⟨r,es',k1,k2,k3,k4,k5,k6,k7,k8,k9⟩ | ⟨sz,k1,k2,k3,k4,k5,k6,k7⟩
    ·simp only[h,bE] at bo;simp at bo
    ·simp only at bo
     rw[k8] at bo;injection bo with bo;subst bo
     rcases ho.ok r es' k2 with⟨q1,q2,q3,q4⟩ | ⟨m1,m2,ob,m3,m4⟩
     ·refine .inl ?_
      unfold mB
      simp only[k6,k9]
      refine⟨q1,q2,q3,q4.imp id ?_⟩
      rintro⟨c,T,vs,p1,p2,p3,p4⟩
      exact⟨c,T,vs,p1,p2,bN (X:=X) (μ:=μ) (μ':=⟨μ.w,eU μ.φ ws,(enter aD).O⟩) rfl (fun b hb=> (jd b hb).1) k4 p3,p4⟩
     ·refine .inr ?_
      unfold uq
      simp only[k6,k9]
      refine⟨m1,m2,ob,m3,?_⟩
      rcases m4 with⟨ents,clock,e1,e2,e3⟩ | m4| ⟨mo,since,lX,e1,e2,e3⟩
      ·exact .inl ⟨ents,clock,e1,bN (X:=X) (μ:=μ) (μ':=⟨μ.w,eU μ.φ ws,(enter aD).O⟩) rfl (fun b hb=> (jd b hb).1) k4 e2,e3⟩
      ·exact .inr (.inl m4)
      ·  subst e2
         refine .inr (.inr ⟨mo,since,lX,e1,rfl,e3.imp id ?_⟩)
         rintro⟨m,ents,l1,l2,l3,l4,l5,l6⟩
         exact⟨m,ents,l1,fun h=>l2 (jd m h).1,l3,l4,l5,bN (X:=X) (μ:=μ) (μ':=⟨μ.w,eU μ.φ ws,(enter aD).O⟩) rfl (fun b hb=> (jd b hb).1) (by simpa [V.ak,V.au] using k4) l6⟩
    ·simp only at bo
     rw[k6] at bo;injection bo with bo;subst bo
     refine .inl ?_
     unfold mB
     simp only[k4,k7]
     exact⟨k2,afU,rfl,afU⟩
  · simp only at h1 h2 h3 h4 ⊢
    rcases kY hp j1 with h| ⟨r,es',k1,k2,k3,k4,k5,k6,k7,k8,k9⟩ | ⟨sz,k1,k2,k3,k4,k5,k6,k7⟩
    ·rw[h] at h1;simp[bE] at h1
    ·rcases kY hp j2 with h| ⟨r',Ar,l1,l2,l3,l4,l5,l6,l7,l8,l9⟩ | ⟨sz,l1,l2,l3,l4,l5,l6,l7⟩
     ·rw[h] at h2;simp[bE] at h2
     ·rw[k9] at h3 ⊢
      rw[l9] at h4 ⊢
      refine ho.inj r r' (fun e=> ?_) (by simp[k2]) (by simp[l2]) h3 h4
      have:=rP hd _ k1 _ l1 e
      injection this with e1;exact cF e1
     ·rw[l7] at h4;simp at h4
    ·rw[k7] at h3;simp at h3
  · simp only at h1 h2 hb
    rcases kY hp j with h| ⟨r,es',k1,k2,k3,k4,k5,k6,k7,k8,k9⟩ | ⟨sz,k1,k2,k3,k4,k5,k6,k7⟩
    ·rw[h] at h1;simp[bE] at h1
    ·rw[k9] at h2 hb
     rcases hb with hb| ⟨r',g0,g1,g2,g3,g4,g5⟩
     ·exact ho.sS r (by simp[k2]) h2 hb
     ·have cF:r'≠r:=fun e=>g1 (agk.2 ⟨_,k1,e.symm⟩)
      exact ho.inj r' r cF g2 (by simp[k2]) g4 h2 g5
    ·rw[k7] at h2;simp at h2
  · rcases hb with hb| ⟨r',g0,g1,g2,g3,g4,g5⟩
    ·exact ho.blt b hb
    ·obtain⟨es',he⟩:=af8.1 g2
     rw[←g5];exact fR.bV (ho.ok r' es' he) g4
end
end Go.AM
namespace Go.AM
open Go Go.RowKit
section
variable {X X':Ctx} {μ μ':Mu}
mutual
theorem weaken (hX:X'.toTrEnv=X.toTrEnv) (hk:X'.tok=X.tok) (hw:μ'.w=μ.w) (hφ:μ'.φ=μ.φ) (hO: ∀r,(μ'.O r).gen=(μ.O r).gen∧(μ'.O r).sz=(μ.O r).sz) (ho: ∀b,Own X' μ' b→Own X μ b): ∀ {x:V} {v:Value},aj X μ x v→aj X' μ' x v
 | .bool _,_,h| .int ..,_,h| .float _,_,h| .str _,_,h| .nilp,_,h| .nilfn,_,h| .nili,_,h| .nils,_,h=>by simpa [aj] using h
 | .any,_,_=>by simp[aj]
 | .own ..,_,h| .msl ..,_,h| .mptr ..,_,h=>by simp[aj] at h
 | .agg cs,_,h=>by
   simp only[aj] at h ⊢
   obtain⟨h1,vs,rfl,h2⟩:=h
   exact⟨h1,vs,rfl,mJ hX hk hw hφ hO ho h2⟩
 | .tuple cs,_,h=>by
   simp only[aj] at h ⊢
   obtain⟨vs,rfl,h2⟩:=h
   exact⟨vs,rfl,mJ hX hk hw hφ hO ho h2⟩
 | .bfn f cs,_,h=>by
   simp only[aj] at h ⊢
   obtain⟨F,cv,rfl,h1,h2⟩:=h
   exact⟨F,cv,rfl,by rw[hX];exact h1,mJ hX hk hw hφ hO ho h2⟩
 | .fn f cs,_,h=>by
   simp only[aj] at h ⊢
   obtain⟨F,cv,rfl,h1,h2⟩:=h
   exact⟨F,cv,rfl,by rw[hX];exact h1,mJ hX hk hw hφ hO ho h2⟩
 | .iface t x,_,h=>by
   simp only[aj] at h ⊢
   obtain⟨F,y,rfl,h1,h2⟩:=h
   exact⟨F,y,rfl,by rw[hX];exact h1,weaken hX hk hw hφ hO ho h2⟩
 | .lit sz xs,_,h=>by
   simp only[aj] at h ⊢
   obtain⟨h0,jx,a,cap,vs,rfl,h1,h2,h3⟩:=h
   refine⟨h0,jx,a,cap,vs,rfl,h1,mJ hX hk hw hφ hO ho h2,h3.imp id ?_⟩
   rintro⟨b,o,rfl,hb,hs,hr⟩
   exact⟨b,o,rfl,fun hh=>hb (ho b hh),by rw[hw];exact hs,by rw[hw];exact hr⟩
 | .sl r g off len,_,h=>by
   simp only[aj] at h ⊢
   rw[hφ,(hO r).1,(hO r).2];exact h
 | .ptr r g idx off,_,h=>by
   simp only[aj] at h ⊢
   rw[hφ,(hO r).1,(hO r).2];exact h
 | .litk sz xs,_,h=>by
   simp only[aj] at h ⊢
   obtain⟨h0,jx,a,cap,vs,rfl,h1,h2,h3⟩:=h
   refine⟨h0,jx,a,cap,vs,rfl,h1,mJ hX hk hw hφ hO ho h2,h3.imp id ?_⟩
   rintro⟨rfl,hb,hs,hr⟩
   rw[hk]
   exact⟨rfl,fun hh=>hb (ho _ hh),by rw[hw];exact hs,by rw[hw];exact hr⟩
 | .epk i sz e off,_,h=>by
   simp only[aj] at h ⊢
   obtain⟨h0,jx,x,rfl,hb,hs,h1,hr⟩:=h
   rw[hk]
   exact⟨h0,jx,x,rfl,fun hh=>hb (ho _ hh),by rw[hw];exact hs,weaken hX hk hw hφ hO ho h1,by rw[hw];exact hr⟩
 | .eptr e off,_,h=>by
   simp only[aj] at h ⊢
   obtain⟨h0,jx,b,o,sz,x,rfl,hb,hs,h1,hr⟩:=h
   exact⟨h0,jx,b,o,sz,x,rfl,fun hh=>hb (ho b hh),by rw[hw];exact hs,weaken hX hk hw hφ hO ho h1,by rw[hw];exact hr⟩
 | .mp r g,_,h| .it r g,_,h=>by
   simp only[aj] at h ⊢
   rw[hφ,(hO r).1,(hO r).2];exact h
 | .mlit es,_,h=>by
   simp only[aj] at h ⊢
   obtain⟨h0,h⟩:=h
   refine⟨h0,h.imp id ?_⟩
   rintro⟨a,ents,clock,rfl,hb,hs,h1,h2⟩
   exact⟨a,ents,clock,rfl,fun hh=>hb (ho a hh),by rw[hw];exact hs,by rw[hw];exact h1,mJ hX hk hw hφ hO ho h2⟩
theorem mJ (hX:X'.toTrEnv=X.toTrEnv) (hk:X'.tok=X.tok) (hw:μ'.w=μ.w) (hφ:μ'.φ=μ.φ) (hO: ∀r,(μ'.O r).gen=(μ.O r).gen∧(μ'.O r).sz=(μ.O r).sz) (ho: ∀b,Own X' μ' b→Own X μ b): ∀ {xs:List V} {vs:List Value},ag X μ xs vs→ag X' μ' xs vs
 | [],[],_=>by simp[ag]
 | [],_::_,h=>by simp[ag] at h
 | _::_,[],h=>by simp[ag] at h
 | x::xs,v::vs,h=>by
   simp only[ag] at h ⊢
   exact⟨weaken hX hk hw hφ hO ho h.1,mJ hX hk hw hφ hO ho h.2⟩
end
mutual
theorem iu (hX:X'.toTrEnv=X.toTrEnv): ∀ {x:V} {v:Value},V.isScalar x=true→aj X μ x v→aj X' μ' x v
 | .bool _,_,_,h| .int ..,_,_,h| .float _,_,_,h| .str _,_,_,h| .nilp,_,_,h| .nilfn,_,_,h| .nili,_,_,h| .nils,_,_,h=>by simpa [aj] using h
 | .any,_,hp,_| .own ..,_,hp,_| .msl ..,_,hp,_| .mptr ..,_,hp,_| .sl ..,_,hp,_| .ptr ..,_,hp,_| .lit ..,_,hp,_| .eptr ..,_,hp,_| .litk ..,_,hp,_| .epk ..,_,hp,_| .mp ..,_,hp,_| .it ..,_,hp,_| .mlit ..,_,hp,_| .bfn ..,_,hp,_| .fn ..,_,hp,_| .iface ..,_,hp,_=>by simp[V.isScalar] at hp
 | .agg cs,_,hp,h=>by
   simp only[aj] at h ⊢
   obtain⟨h1,vs,rfl,h2⟩:=h
   exact⟨h1,vs,rfl,bQ hX (by simpa [V.isScalar] using hp) h2⟩
 | .tuple cs,_,hp,h=>by
   simp only[aj] at h ⊢
   obtain⟨vs,rfl,h2⟩:=h
   exact⟨vs,rfl,bQ hX (by simpa [V.isScalar] using hp) h2⟩
theorem bQ (hX:X'.toTrEnv=X.toTrEnv): ∀ {xs:List V} {vs:List Value},V.bj xs=true→ag X μ xs vs→ag X' μ' xs vs
 | [],[],_,_=>by simp[ag]
 | [],_::_,_,h=>by simp[ag] at h
 | _::_,[],_,h=>by simp[ag] at h
 | x::xs,v::vs,hp,h=>by
   simp only[ag] at h ⊢
   simp only[V.bj,af2] at hp
   exact⟨iu hX hp.1 h.1,bQ hX hp.2 h.2⟩
end
end
structure IP (Y:Ctx) (μf μ1:Mu) (r j:Nat) (row:Row) (o:Obj):Prop where
 es: ∃es,o.es=some es∧V.ak es=true∧0 <o.sz∧es.length≤row.cap∧es.all (aU · o.sz)=true∧
  (row.cap=0∨ ∃c T vs,μ1.w.heap[row.bV]? =some (.cells c T (0,0))∧row.base+row.cap*o.sz≤c.size∧ag Y μ1 es vs∧di μ1.w row.bV row.base o.sz vs)
 live: (μ1.O j).es.isSome=true∧(μ1.O j).fz=false
 bV:row.cap≠0→(μ1.φ j).cap≠0∧row.bV=(μ1.φ j).bV
 gen: (μf.O r).gen<o.gen∨(o.gen=(μf.O r).gen∧row=μf.φ r∧o.sz=(μf.O r).sz)
 sc: (∀es,(μ1.O j).es=some es→V.bj es=true)→ ∀es,o.es=some es→V.bj es=true
structure fU (Y:Ctx) (μf μ1:Mu) (U:Nat→Prop) (A:Nat→Option Nat) (φ:Nat→Row) (O:Nat→Obj):Prop where
 Gw: ∀r,A r=none→O r=μf.O r∧φ r=μf.φ r
 Cc: ∀r j,A r=some j→IP Y μf μ1 r j (φ r) (O r)∧U j
 inj: ∀r1 r2 j,A r1=some j→A r2=some j→r1=r2
def ef (φ:Nat→Row) (O:Nat→Obj) (φ':Nat→Row) (O':Nat→Obj):Prop:=
 ∀r,(O r).gen≤(O' r).gen∧((O' r).gen=(O r).gen→φ' r=φ r∧(O' r).sz=(O r).sz)
theorem ef.refl (φ:Nat→Row) (O:Nat→Obj):ef φ O φ O:=fun _=> ⟨af6 _,fun _=> ⟨rfl,rfl⟩⟩
theorem ef.trans {φ φ' φ'':Nat→Row} {O O' O'':Nat→Obj} (h:ef φ O φ' O') (k:ef φ' O' φ'' O''):ef φ O φ'' O'':=fun r=>by
 obtain⟨h1,h2⟩:=h r
 obtain⟨k1,k2⟩:=k r
 refine⟨agm h1 k1,fun e=> ?_⟩
 obtain⟨a1,a2⟩:=h2 ae0
 obtain⟨b1,b2⟩:=k2 ae0
 exact⟨b1.trans a1,b2.trans a2⟩
def oQ (μ1:Mu) (φ:Nat→Row) (O:Nat→Obj) (i r g:Nat):Prop:=g≤(O r).gen∧((O r).gen=g→φ r=μ1.φ i∧(O r).sz=(μ1.O i).sz)
theorem oQ.mono {μ1:Mu} {φ φ':Nat→Row} {O O':Nat→Obj} {i r g:Nat} (h:oQ μ1 φ O i r g) (m:ef φ O φ' O'):oQ μ1 φ' O' i r g:=by
 obtain⟨m1,m2⟩:=m r
 refine⟨agm h.1 m1,fun e=> ?_⟩
 have:=h.1
 obtain⟨a1,a2⟩:=m2 ae0
 obtain⟨b1,b2⟩:=h.2 ae0
 exact⟨a1.trans b1,a2.trans b2⟩
theorem fU.take {Y:Ctx} {μf μ1:Mu} {U U':Nat→Prop} {A:Nat→Option Nat} {φ:Nat→Row} {O:Nat→Obj} (h:fU Y μf μ1 U A φ O) {r j:Nat} {row:Row} {o:Obj} (hj: ¬U j) (hU: ∀i,U i→U' i) (hUj:U' j)
  (ht:IP Y μf μ1 r j row o):fU Y μf μ1 U' (cU A r (some j)) (cU φ r row) (cU O r o) where
 Gw:=fun r' e=>by
  by_cases e':r'=r
  ·subst e';simp[aw] at e
  ·rw[aW _ _ e'] at e ⊢;rw[aW _ _ e'];exact h.Gw r' e
 Cc:=fun r' j' e=>by
  by_cases e':r'=r
  ·subst e';simp only[aw] at e ⊢;injection e with e;subst e;exact⟨ht,hUj⟩
  ·rw[aW _ _ e'] at e ⊢;rw[aW _ _ e']
   obtain⟨k1,k2⟩:=h.Cc r' j' e
   exact⟨k1,hU _ k2⟩
 inj:=fun r1 r2 j' e1 e2=>by
  by_cases q1:r1=r<;>by_cases q2:r2=r
  ·rw[q1,q2]
  ·subst q1
   simp only[aw] at e1;injection e1 with e1;subst e1
   rw[aW _ _ q2] at e2
   exact absurd (h.Cc r2 _ e2).2 hj
  ·subst q2
   simp only[aw] at e2;injection e2 with e2;subst e2
   rw[aW _ _ q1] at e1
   exact absurd (h.Cc r1 _ e1).2 hj
  ·rw[aW _ _ q1] at e1
   rw[aW _ _ q2] at e2
   exact h.inj r1 r2 j' e1 e2
theorem ef.cU {φ:Nat→Row} {O:Nat→Obj} {r:Nat} {row:Row} {o:Obj} (h: (O r).gen<o.gen∨(o.gen=(O r).gen∧row=φ r∧o.sz=(O r).sz)):ef φ O (cU φ r row) (cU O r o):=fun r'=>by
 by_cases e:r'=r
 ·subst e
  simp only[aw]
  rcases h with h| ⟨h1,h2,h3⟩
  ·exact⟨ae0,fun e=>ae0⟩
  ·exact⟨ae0,fun _=> ⟨h2,h3⟩⟩
 ·simp[aW _ _ e]
end Go.AM
namespace Go.AM
open Go Go.RowKit
section
variable {X Y:Ctx} {μ μf μ1:Mu} {r0:Nat} {C:bn} {T:Nat→V}
theorem sN (h1:ba Y μ1) {r i:Nat} {es:List V} {o:Obj} (h0:0 < (μ1.O i).sz) (bo: (μ1.O i).es=some es) (gu: (μ1.O i).fz=false) (hp:V.ak es=true) (ho:o.es=some es) (bF:o.sz=(μ1.O i).sz)
  (hg: (μf.O r).gen<o.gen∨(o.gen=(μf.O r).gen∧μ1.φ i=μf.φ r∧o.sz=(μf.O r).sz)):IP Y μf μ1 r i (μ1.φ i) o:=by
 obtain⟨q1,q2,q3,q4⟩:=h1.row i es bo h0
 refine⟨⟨es,ho,hp,by rw[bF];exact q1,q2,by rw[bF];exact q3,?_⟩,⟨by simp[bo],gu⟩,fun hc=> ⟨hc,rfl⟩,hg,fun hs es' he=> ?_⟩
 ·rw[bF];exact q4
 ·rw[ho] at he;injection he with he;subst he;exact hs _ bo
theorem kP {O:Nat→Obj} {i sz off len:Nat} {lX:List V} {aD:List V} {outs:List (Nat×List V)} (h:cI O i (.msl sz lX off len::aD)=some outs):
  ∃es lQ,(O i).es=some es∧cI O (i+1) aD=some lQ∧(O i).fz=false∧(O i).sz=sz∧V.ak es=true∧outs=((O i).gen,es)::lQ:=by
 simp only[cI] at h
 split at h
 ·rename_i es lQ h1 h2
  split at h
  ·rename_i hc
   injection h with h
   exact⟨es,lQ,h1,h2,hc.1,hc.2.1,hc.2.2,h.symm⟩
  ·simp at h
 ·simp at h
theorem rQ {O:Nat→Obj} {i sz off len:Nat} {lX:List V} {aD:List V} {outs:List (Nat×List V)} (h:cI O i (.mptr sz lX off len::aD)=some outs):
  ∃es lQ,(O i).es=some es∧cI O (i+1) aD=some lQ∧(O i).fz=false∧(O i).sz=sz∧V.ak es=true∧outs=((O i).gen,es)::lQ:=by
 simp only[cI] at h
 split at h
 ·rename_i es lQ h1 h2
  split at h
  ·rename_i hc
   injection h with h
   exact⟨es,lQ,h1,h2,hc.1,hc.2.1,hc.2.2,h.symm⟩
  ·simp at h
 ·simp at h
theorem qi {O:Nat→Obj} {i:Nat} {a:V} {aD:List V} (h:V.au a=true):cI O i (a::aD)=cI O (i+1) aD:=by
 cases a<;>simp[V.au] at h<;>rfl
theorem rR (h1:ba Y μ1) {w0:List eh} (dg: ∀w ∈ w0,w.fresh=none→(μ1.O w.i).gen=0→μ1.φ w.i=μ.φ w.r) (hφ:μf.φ=μ.φ) (UI: ∀w ∈ w0,μf.O w.r=μ.O w.r) {S:Nat→Prop} (hS: ∀w ∈ w0,S w.i):
   ∀ {i:Nat} {aD:List V} {vs:List Value} {rs:List Nat} {ws:List eh},lO X μ r0 i aD vs rs ws→ ∀ {outs:List (Nat×List V)} {A:Nat→Option Nat} {φ:Nat→Row} {O:Nat→Obj} {k:List (Nat×Nat×Nat)→Act} {p:V×St},
    cI μ1.O i aD=some outs→fU Y μf μ1 (fun j=>j<i∧S j) A φ O→(∀w ∈ ws,w ∈ w0)→(∀w ∈ ws,A w.r=none)→distinct (ws.map (·.r))=true→(fe ws outs k).run C ⟨T,O⟩=some p→
    ∃A' φ' O' gs,(k gs).run C ⟨T,O'⟩=some p∧fU Y μf μ1 (fun j=>j<i+aD.length∧S j) A' φ' O'∧ef φ O φ' O'∧(∀w ∈ ws,A' w.r≠none)∧(∀r,A r≠none→A' r≠none)∧
       ∀x ∈ gs,oQ μ1 φ' O' x.1 x.2.1 x.2.2:=by
 intro i aD vs rs ws hp
 induction hp with
 | nil i=>
   intro outs A φ O k p ho ht _ _ _ ah
   simp[cI] at ho;subst ho
   exact⟨A,φ,O,[],ah,by simpa using ht,ef.refl _ _,afU,fun _ h=>h,afU⟩
 | @plain i a v rs rs' aD vs ws mr hs h ih=>
   intro outs A φ O k p ho ht hw hA hd ah
   rw[qi mr] at ho
   have kH:fU Y μf μ1 (fun j=>j<i+1∧S j) A φ O:=⟨ht.Gw,fun r j e=> ⟨(ht.Cc r j e).1,⟨by have:=(ht.Cc r j e).2.1;omega,(ht.Cc r j e).2.2⟩⟩,ht.inj⟩
   obtain⟨A',φ',O',gs,k1,k2,k3,k4,k5,k6⟩:=ih ho kH hw hA hd ah
   refine⟨A',φ',O',gs,k1,?_,k3,k4,k5,k6⟩
   have e:i+(a::aD).length=i+1+aD.length:=by simp;omega
   rw[e];exact k2
 | @sl i r g off len lX v rs aD vs ws bo gu cE mr iM hv h ih=>
   intro outs A φ O k p ho ht hw hA hd ah
   obtain⟨es,lQ,o1,o2,o3,o4,o5,rfl⟩:=kP ho
   simp only[fe,Act.run] at ah
   have UJ:=hA ⟨i,r,none⟩ afU
   simp only at UJ
   obtain⟨n1,n2⟩:=ht.Gw r UJ
   have hOr:μf.O r=μ.O r:=UI ⟨i,r,none⟩ (hw _ afU)
   have zV: (μf.O r).gen< (O r).gen+(μ1.O i).gen∨((O r).gen+(μ1.O i).gen=(μf.O r).gen∧μ1.φ i=μf.φ r∧(O r).sz=(μf.O r).sz):=by
    rw[n1]
    by_cases hz: (μ1.O i).gen=0
    ·  right;refine⟨ae0,?_,rfl⟩
       rw[hφ];exact dg ⟨i,r,none⟩ (hw _ afU) rfl hz
    ·left;omega
   have DZ:IP Y μf μ1 r i (μ1.φ i) {O r with gen:=(O r).gen+(μ1.O i).gen,es:=some es}:=
    sN h1 (by rw[o4];simp only[aj] at hv;obtain⟨_,_,_,_,_,hh⟩:=hv;exact(hh cE).1) o1 o3 o5 rfl (by simp only[n1,hOr];exact o4.symm) zV
   have kH:=ht.take (U':=fun j=>j<i+1∧S j) afU (fun j hj=> ⟨ae0,hj.2⟩) ⟨afU,hS ⟨i,r,none⟩ (hw _ afU)⟩ DZ
   have hm:ef φ O (cU φ r (μ1.φ i)) (cU O r {O r with gen:=(O r).gen+(μ1.O i).gen,es:=some es}):=by
    refine ef.cU ?_
    rw[n2]
    have:=zV
    rw[←n1] at this
    exact this.imp id fun hh=> ⟨hh.1,hh.2.1,hh.2.2⟩
   simp only[List.map_cons,distinct,af2,agS,ahq,decide_eq_false_iff_not] at hd
   obtain⟨A',φ',O',gs,k1,k2,k3,k4,k5,k6⟩:=ih o2 kH (fun w kK=>hw w (by simp[kK])) (fun w kK=>by
    have:w.r≠r:=fun e=>hd.1 (agk.2 ⟨w,kK,e⟩)
    rw[aW _ _ this];exact hA w (by simp[kK])) hd.2 ah
   refine⟨A',φ',O',_,k1,?_,hm.trans k3,fun w kK=> ?_,fun r' vn=>k5 r' ?_,fun x hx=> ?_⟩
   ·have e:i+(V.msl (μ.O r).sz lX off len::aD).length=i+1+aD.length:=by simp;omega
    rw[e];exact k2
   ·rcases af7.1 kK with rfl| kK
    ·exact k5 r (by simp[aw])
    ·exact k4 w kK
   ·by_cases e:r'=r
    ·subst e;simp[aw]
    ·rw[aW _ _ e];exact vn
   ·rcases af7.1 hx with rfl| hx
    ·  refine oQ.mono ⟨?_,fun _=> ?_⟩ k3
       ·simp[aw]
       ·simp only[aw];exact⟨trivial,by rw[n1,hOr];exact o4.symm⟩
    ·exact k6 x hx
 | @ptr i r g idx off lX v rs aD vs ws bo gu cE mr hv h ih=>
   intro outs A φ O k p ho ht hw hA hd ah
   obtain⟨es,lQ,o1,o2,o3,o4,o5,rfl⟩:=rQ ho
   simp only[fe,Act.run] at ah
   have UJ:=hA ⟨i,r,none⟩ afU
   simp only at UJ
   obtain⟨n1,n2⟩:=ht.Gw r UJ
   have hOr:μf.O r=μ.O r:=UI ⟨i,r,none⟩ (hw _ afU)
   have zV: (μf.O r).gen< (O r).gen+(μ1.O i).gen∨((O r).gen+(μ1.O i).gen=(μf.O r).gen∧μ1.φ i=μf.φ r∧(O r).sz=(μf.O r).sz):=by
    rw[n1]
    by_cases hz: (μ1.O i).gen=0
    ·  right;refine⟨ae0,?_,rfl⟩
       rw[hφ];exact dg ⟨i,r,none⟩ (hw _ afU) rfl hz
    ·left;omega
   have DZ:IP Y μf μ1 r i (μ1.φ i) {O r with gen:=(O r).gen+(μ1.O i).gen,es:=some es}:=
    sN h1 (by rw[o4];simp only[aj] at hv;obtain⟨_,_,_,hh⟩:=hv;exact(hh cE).1) o1 o3 o5 rfl (by simp only[n1,hOr];exact o4.symm) zV
   have kH:=ht.take (U':=fun j=>j<i+1∧S j) afU (fun j hj=> ⟨ae0,hj.2⟩) ⟨afU,hS ⟨i,r,none⟩ (hw _ afU)⟩ DZ
   have hm:ef φ O (cU φ r (μ1.φ i)) (cU O r {O r with gen:=(O r).gen+(μ1.O i).gen,es:=some es}):=by
    refine ef.cU ?_
    rw[n2]
    have:=zV
    rw[←n1] at this
    exact this.imp id fun hh=> ⟨hh.1,hh.2.1,hh.2.2⟩
   simp only[List.map_cons,distinct,af2,agS,ahq,decide_eq_false_iff_not] at hd
   obtain⟨A',φ',O',gs,k1,k2,k3,k4,k5,k6⟩:=ih o2 kH (fun w kK=>hw w (by simp[kK])) (fun w kK=>by
    have:w.r≠r:=fun e=>hd.1 (agk.2 ⟨w,kK,e⟩)
    rw[aW _ _ this];exact hA w (by simp[kK])) hd.2 ah
   refine⟨A',φ',O',_,k1,?_,hm.trans k3,fun w kK=> ?_,fun r' vn=>k5 r' ?_,fun x hx=> ?_⟩
   ·have e:i+(V.mptr (μ.O r).sz lX idx off::aD).length=i+1+aD.length:=by simp;omega
    rw[e];exact k2
   ·rcases af7.1 kK with rfl| kK
    ·exact k5 r (by simp[aw])
    ·exact k4 w kK
   ·by_cases e:r'=r
    ·subst e;simp[aw]
    ·rw[aW _ _ e];exact vn
   ·rcases af7.1 hx with rfl| hx
    ·  refine oQ.mono ⟨?_,fun _=> ?_⟩ k3
       ·simp[aw]
       ·simp only[aw];exact⟨trivial,by rw[n1,hOr];exact o4.symm⟩
    ·exact k6 x hx
 | @fresh i sz v rs aD vs ws bF hv h ih=>
   intro outs A φ O k p ho ht hw hA hd ah
   obtain⟨es,lQ,o1,o2,o3,o4,o5,rfl⟩:=kP ho
   simp only[fe,Act.run] at ah
   have UJ:=hA ⟨i,r0+i,some sz⟩ afU
   simp only at UJ
   obtain⟨n1,n2⟩:=ht.Gw (r0+i) UJ
   have DZ:IP Y μf μ1 (r0+i) i (μ1.φ i) {gen:=(O (r0+i)).gen+1,sz,arr:=true,fz:=false,es:=some es}:=
    sN h1 (by rw[o4];exact bF) o1 o3 o5 rfl o4.symm (.inl (by simp only[n1];omega))
   have kH:=ht.take (U':=fun j=>j<i+1∧S j) afU (fun j hj=> ⟨ae0,hj.2⟩) ⟨afU,hS ⟨i,r0+i,some sz⟩ (hw _ afU)⟩ DZ
   have hm:ef φ O (cU φ (r0+i) (μ1.φ i)) (cU O (r0+i) {gen:=(O (r0+i)).gen+1,sz,arr:=true,fz:=false,es:=some es}):=
    ef.cU (.inl afU)
   simp only[List.map_cons,distinct,af2,agS,ahq,decide_eq_false_iff_not] at hd
   obtain⟨A',φ',O',gs,k1,k2,k3,k4,k5,k6⟩:=ih o2 kH (fun w kK=>hw w (by simp[kK])) (fun w kK=>by
    have:w.r≠r0+i:=fun e=>hd.1 (agk.2 ⟨w,kK,e⟩)
    rw[aW _ _ this];exact hA w (by simp[kK])) hd.2 ah
   refine⟨A',φ',O',_,k1,?_,hm.trans k3,fun w kK=> ?_,fun r' vn=>k5 r' ?_,fun x hx=> ?_⟩
   ·have e:i+(V.msl sz [] 0 0::aD).length=i+1+aD.length:=by simp;omega
    rw[e];exact k2
   ·rcases af7.1 kK with rfl| kK
    ·exact k5 (r0+i) (by simp[aw])
    ·exact k4 w kK
   ·by_cases e:r'=r0+i
    ·subst e;simp[aw]
    ·rw[aW _ _ e];exact vn
   ·rcases af7.1 hx with rfl| hx
    ·  refine oQ.mono ⟨?_,fun _=> ?_⟩ k3
       ·simp[aw]
       ·simp only[aw];exact⟨trivial,o4.symm⟩
    ·exact k6 x hx
theorem Qx {O:Nat→Obj} {i:Nat} {aD:List V} {vs:List Value} {rs:List Nat} {ws:List eh} (hp:lO X μ r0 i aD vs rs ws): ∀ {outs:List (Nat×List V)},cI O i aD=some outs→
   ∀w ∈ ws,∃g es,(O w.i).es=some es∧(g,es) ∈ outs:=by
 induction hp with
 | nil i=>intro outs _ w hw;simp at hw
 | plain mr hs h ih=>intro outs ho;rw[qi mr] at ho;exact ih ho
 | @sl i r g off len lX v rs aD vs ws bo gu cE mr iM hv h ih=>
   intro outs ho w hw
   obtain⟨es,lQ,o1,o2,o3,o4,o5,rfl⟩:=kP ho
   rcases af7.1 hw with rfl| hw
   ·exact⟨_,es,o1,List.mem_cons_self⟩
   ·obtain⟨g,es',k1,k2⟩:=ih o2 w hw;exact⟨g,es',k1,by simp[k2]⟩
 | @ptr i r g idx off lX v rs aD vs ws bo gu cE mr hv h ih=>
   intro outs ho w hw
   obtain⟨es,lQ,o1,o2,o3,o4,o5,rfl⟩:=rQ ho
   rcases af7.1 hw with rfl| hw
   ·exact⟨_,es,o1,List.mem_cons_self⟩
   ·obtain⟨g,es',k1,k2⟩:=ih o2 w hw;exact⟨g,es',k1,by simp[k2]⟩
 | @fresh i sz v rs aD vs ws bF hv h ih=>
   intro outs ho w hw
   obtain⟨es,lQ,o1,o2,o3,o4,o5,rfl⟩:=kP ho
   rcases af7.1 hw with rfl| hw
   ·exact⟨_,es,o1,List.mem_cons_self⟩
   ·obtain⟨g,es',k1,k2⟩:=ih o2 w hw;exact⟨g,es',k1,by simp[k2]⟩
end
end Go.AM
namespace Go.AM
open Go Go.RowKit
def after (Y:Ctx) (μ1:Mu) (n:Nat) (bA:Bool) (b:Nat):Prop:=
 Y.Us b∨ ∃j,(bA=true∨j<n)∧(μ1.O j).es.isSome=true∧(μ1.O j).fz=false∧(μ1.φ j).cap≠0∧(μ1.φ j).bV=b
def quiet (μ1:Mu) (φ:Nat→Row) (O:Nat→Obj):Mu:=⟨μ1.w,φ,fun r=> {O r with fz:=true}⟩
theorem vJ {μ1:Mu} {φ:Nat→Row} {O:Nat→Obj} {b:Nat}: ¬ (quiet μ1 φ O).own b:=by
 rintro⟨r,_,h,_⟩;simp[quiet] at h
theorem Gx {μ1:Mu} {φ φ':Nat→Row} {O O':Nat→Obj} (h:ef φ O φ' O'):Le (quiet μ1 φ O) (quiet μ1 φ' O'):=
 ⟨af6 _,fun _ _ _=> ⟨rfl,vJ⟩,fun r=> (h r).1,fun r e=> (h r).2 e,rfl,rfl,rfl,fun _ _=>rfl⟩
theorem ki: ∀ {aD bs:List Nat},distinct (aD++bs)=true→distinct aD=true∧distinct bs=true∧ ∀b ∈ bs,b ∉ aD
 | [],bs,h=> ⟨rfl,h,fun _ _=>afU⟩
 | a::aD,bs,h=>by
   simp only[ags,distinct,af2,agS,ahq,decide_eq_false_iff_not,agd,not_or] at h ⊢
   obtain⟨h1,h2⟩:=h
   obtain⟨k1,k2,k3⟩:=ki h2
   refine⟨⟨h1.1,k1⟩,k2,fun b hb=> ?_⟩
   simp only[af7,not_or]
   exact⟨fun e=>h1.2 (e ▸ hb),k3 b hb⟩
theorem wW {i r g:Nat}: ∀ {gs:List (Nat×Nat×Nat)},nT i gs=some (r,g)→(i,r,g) ∈ gs
 | [],h=>by simp[nT] at h
 | (j,r',g')::gs,h=>by
   simp only[nT] at h
   split at h
   · rename_i e
     subst e
     simp only[afY,af4] at h
     simp[h.1,h.2]
   ·exact List.mem_cons_of_mem _ (wW h)
theorem qj: ∀ {es:List V} (n:Nat),V.bj es=true→V.bj (es.take n)=true
 | _,0,_=>by simp[V.bj]
 | [],_+1,_=>by simp[V.bj]
 | x::xs,n+1,h=>by
   simp only[V.bj,af2] at h
   simp only[agO,V.bj,af2]
   exact⟨h.1,qj n h.2⟩
theorem qk: ∀ {es:List V} (n:Nat),V.bj es=true→V.bj (es.drop n)=true
 | _,0,h=>by simpa using h
 | [],_+1,_=>by simp[V.bj]
 | x::xs,n+1,h=>by
   simp only[V.bj,af2] at h
   simpa using qk n h.2
theorem vK {es:List V} {off len:Nat} (h:V.bj es=true):V.bj (aF es off len)=true:=qj _ (qk _ h)
section
variable {Y:Ctx} {μf μ1:Mu} {n:Nat} {bA:Bool} {C:bn} {T:Nat→V}
theorem kZ {φ:Nat→Row} {O:Nat→Obj} {b:Nat} (h:Own ⟨Y.toTrEnv,after Y μ1 n bA,Y.tok⟩ (quiet μ1 φ O) b):Own Y μ1 b:=by
 rcases h with h| h| ⟨j,_,h1,h2,h3,h4⟩
 ·exact absurd h vJ
 ·exact .inr h
 ·exact .inl ⟨j,h1,h2,h3,h4⟩
theorem jG (h1:ba Y μ1) {U:Nat→Prop} {A:Nat→Option Nat} {φ:Nat→Row} {O:Nat→Obj} {gs:List (Nat×Nat×Nat)} {c:V} {rs:List Nat} {val:Value} {r:Nat} {k:V→Act} {p:V×St}
   (ht:fU Y μf μ1 U A φ O) (hlo: ∀r,(μf.O r).gen≤(O r).gen) (Ga: ∀x ∈ gs,oQ μ1 φ O x.1 x.2.1 x.2.2) (he:Tt Y μ1 n c rs val) (hU: ∀j ∈ rs,n≤j→ ¬U j) (ah: (dz bA r gs c k).run C ⟨T,O⟩=some p):
   ∃A' φ' O' c',(k c').run C ⟨T,O'⟩=some p∧fU Y μf μ1 (fun j=>U j∨(bA=true∧j ∈ rs)) A' φ' O'∧ef φ O φ' O'∧(∀r,A r≠none→A' r≠none)∧
     aj ⟨Y.toTrEnv,after Y μ1 n bA,Y.tok⟩ (quiet μ1 φ' O') c' val∧(c.jc=true→c'.aR=true):=by
 have DZ:fU Y μf μ1 (fun j=>U j∨(bA=true∧j ∈ rs)) A φ O:=⟨ht.Gw,fun r j e=> ⟨(ht.Cc r j e).1,.inl (ht.Cc r j e).2⟩,ht.inj⟩
 cases he with
 | pure hp hv=>
   refine⟨A,φ,O,c,?_,DZ,ef.refl _ _,fun _ h=>h,dM (X:=Y) (μ:=μ1) (μ':=quiet μ1 φ O) rfl (fun b=>kZ) hp hv,fun hc=> ?_⟩
   ·cases c<;>simp[V.au] at hp<;>simpa [dz,V.au,hp] using ah
   ·cases c<;>simp_all[V.au,V.jc]
 | @sl j g off len es val hr bo hg hl hv=>
   simp only[dz] at ah
   split at ah
   · rename_i r' g' Vs
     obtain⟨g1,g2⟩:=Ga _ (wW Vs)
     refine⟨A,φ,O,_,ah,DZ,ef.refl _ _,fun _ h=>h,?_,fun _=>rfl⟩
     simp only[aj] at hv ⊢
     obtain⟨a,cap,rfl,q1,q2,q3⟩:=hv
     refine⟨a,cap,rfl,q1,g1,fun e=> ?_⟩
     obtain⟨e1,e2⟩:=g2 e
     simp only[quiet] at e1 e2 ⊢
     rw[e1,e2];exact q3 hg
   ·exact absurd ah aq
 | @own j g off len es val hr bo gu hg hl hp hv=>
   simp only[dz] at ah
   have a0:0 < (μ1.O j).sz:=by simp only[aj] at hv;obtain⟨_,_,_,_,_,hh⟩:=hv;exact(hh hg).1
   obtain⟨q1,q2,q3,q4⟩:=h1.row j es bo a0
   have oa: (aF es off len).length=len:=by simp[aF];omega
   have WN: (aF es off len).all (aU · (μ1.O j).sz)=true:=by
     simp only[af5] at q3 ⊢
     exact fun x hx=>q3 x (agF (agp hx))
   have kq: (aF es off len).all V.da=true:=by
     simp only[af5] at WN ⊢
     exact fun x hx=> (cm (WN x hx)).1
   simp only[aj] at hv
   obtain⟨a,cap,rfl,s1,s2,s3⟩:=hv
   obtain⟨-,a1,a2⟩:=s3 hg
   cases hth:bA with
   | true=>
     subst hth
     rw[if_pos rfl] at ah
     simp only[Act.run] at ah
     have dg: (⟨(μ1.φ j).bV,(μ1.φ j).base+off*(μ1.O j).sz,cap⟩:Row).cap=cap:=rfl
     have abc:IP Y μf μ1 r j ⟨(μ1.φ j).bV,(μ1.φ j).base+off*(μ1.O j).sz,cap⟩ {gen:=(O r).gen+1,sz:=(μ1.O j).sz,arr:=true,fz:=false,es:=some (aF es off len)}:=by
      refine⟨⟨_,rfl,hp,q1,by simp only[oa];exact s1,WN,?_⟩,⟨by simp[bo],gu⟩,fun hc=> ⟨?_,rfl⟩,.inl ?_,fun hs es' he=> ?_⟩
      ·rcases q4 with q4| ⟨cc,TT,vs,p1,p2,p3,p4⟩
       ·left;simp only;omega
       ·right
        refine⟨cc,TT,(vs.drop off).take len,p1,?_,ag.take _ (ag.drop _ p3),(p4.drop off).take len⟩
        simp only
        rw[←a1,agv] at p2
        omega
      ·simp only at hc;omega
      ·have:=hlo r;simp only;omega
      ·simp only at he;injection he with he;subst he
       exact vK (hs es bo)
     have hm:ef φ O (cU φ r ⟨(μ1.φ j).bV,(μ1.φ j).base+off*(μ1.O j).sz,cap⟩) (cU O r {gen:=(O r).gen+1,sz:=(μ1.O j).sz,arr:=true,fz:=false,es:=some (aF es off len)}):=
      ef.cU (.inl afU)
     refine⟨_,_,_,_,ah,ht.take (U':=fun i=>U i∨(True∧i ∈ [j])) (hU j afU hr) (fun i hi=> .inl hi) afU abc |> fun t=>by simpa using t,hm,fun r' vn=> ?_,?_,fun _=>rfl⟩
     ·by_cases e:r'=r
      ·subst e;simp[aw]
      ·rw[aW _ _ e];exact vn
     ·simp only[aj,quiet,aw]
      refine⟨a,cap,by rw[oa],by rw[oa];exact s1,af6 _,fun _=> ⟨a0,ae0,a2.imp id fun e=> ?_⟩⟩
      rw[e];simp
   | false=>
     subst hth
     rw[if_neg afU] at ah
     refine⟨A,φ,O,_,ah,DZ,ef.refl _ _,fun _ h=>h,?_,fun _=>rfl⟩
     simp only[aj]
     by_cases GW:len=0
     ·exact⟨hp,kq,a,cap,[],by rw[oa],ae0,by simp[aF,GW,ag],.inl (by simpa using oa.trans GW)⟩
     ·rcases q4 with q4| ⟨cc,TT,vs,p1,p2,p3,p4⟩
      ·omega
      ·refine⟨hp,kq,a,cap,(vs.drop off).take len,by rw[oa],ae0,bN (X:=Y) (μ:=μ1) (μ':=quiet μ1 φ O) rfl (fun b=>kZ) hp (ag.take _ (ag.drop _ p3)),
        .inr ⟨_,_,a2.resolve_left ae0,?_,(af1.1 p1).1,(p4.drop off).take len⟩⟩
       rintro(h| h| ⟨j',k0,k1,k2,k3,k4⟩)
       ·exact vJ h
       ·exact h1.sS j (by simp[bo]) ae0 h
       ·have XT:j'<n:=by simpa using k0
        exact h1.inj j' j ae0 k1 (by simp[bo]) k3 ae0 k4
theorem fU.lo {U:Nat→Prop} {A:Nat→Option Nat} {φ:Nat→Row} {O:Nat→Obj} (h:fU Y μf μ1 U A φ O) (r:Nat): (μf.O r).gen≤(O r).gen:=by
 cases e:A r with
 | none=>rw[(h.Gw r e).1];exact af6 _
 | some j=>
   rcases(h.Cc r j e).1.gen with h| ⟨h,_⟩ <;>omega
def DJ (Y:Ctx) (μf μ1:Mu) (C:bn) (T:Nat→V) (U:Nat→Prop) (A:Nat→Option Nat) (φ:Nat→Row) (O:Nat→Obj) {α:Type} (k:α→Act) (p:V×St) (G: (Nat→Row)→(Nat→Obj)→α→Prop):Prop:=
 ∃A' φ' O' c',(k c').run C ⟨T,O'⟩=some p∧fU Y μf μ1 U A' φ' O'∧ef φ O φ' O'∧(∀r,A r≠none→A' r≠none)∧G φ' O' c'
theorem fU.more {U U':Nat→Prop} {A:Nat→Option Nat} {φ:Nat→Row} {O:Nat→Obj} (h:fU Y μf μ1 U A φ O) (hU: ∀j,U j→U' j):fU Y μf μ1 U' A φ O:=
 ⟨h.Gw,fun r j e=> ⟨(h.Cc r j e).1,hU _ (h.Cc r j e).2⟩,h.inj⟩
theorem uH (h1:ba Y μ1): ∀ {U:Nat→Prop} {A:Nat→Option Nat} {φ:Nat→Row} {O:Nat→Obj} {gs:List (Nat×Nat×Nat)} {cs:List V} {rs:List Nat} {vals:List Value} {r:Nat} {k:List V→Act} {p:V×St},
   fU Y μf μ1 U A φ O→(∀x ∈ gs,oQ μ1 φ O x.1 x.2.1 x.2.2)→AQ Y μ1 n cs rs vals→(∀j ∈ rs,n≤j→ ¬U j)→distinct rs=true→(eW bA r gs cs k).run C ⟨T,O⟩=some p→
   DJ Y μf μ1 C T (fun j=>U j∨(bA=true∧j ∈ rs)) A φ O k p fun φ' O' cP=>ag ⟨Y.toTrEnv,after Y μ1 n bA,Y.tok⟩ (quiet μ1 φ' O') cP vals∧(cs.all V.jc=true→cP.all V.aR=true):=by
 intro U A φ O gs cs rs vals r k p ht Ga he hU hd ah
 induction he generalizing U A φ O r k with
 | nil=>exact⟨A,φ,O,[],ah,ht.more fun j h=> .inl h,ef.refl _ _,fun _ h=>h,by simp[ag],fun _=>rfl⟩
 | @cons c rs rs' val cs vals h hs ih=>
   obtain⟨d1,d2,d3⟩:=ki hd
   simp only[eW] at ah
   obtain⟨A1,φ1,O1,c1,k1,k2,k3,k4,k5,k6⟩:=jG h1 ht ht.lo Ga h (fun j hj=>hU j (by simp[hj])) ah
   obtain⟨A2,φ2,O2,cs2,m1,m2,m3,m4,m5,m6⟩:=ih k2 (fun x hx=> (Ga x hx).mono k3) (fun j hj hn hu=>by
    rcases hu with hu| ⟨_,hu⟩
    ·exact hU j (by simp[hj]) hn hu
    ·exact d3 j hj hu) d2 k1
   refine⟨A2,φ2,O2,c1::cs2,m1,m2.more fun j hj=> ?_,k3.trans m3,fun r' h=>m4 r' (k4 r' h),?_,?_⟩
   ·rcases hj with(hj| ⟨e,hj⟩) | ⟨e,hj⟩
    ·exact .inl hj
    ·exact .inr ⟨e,by simp[hj]⟩
    ·exact .inr ⟨e,by simp[hj]⟩
   ·simp only[ag];exact⟨aj.mono (Gx m3) k5,m5⟩
   ·simp only[agj,af2]
    exact fun hc=> ⟨k6 hc.1,m6 hc.2⟩
theorem jH: ∀ {cs:List V},V.ak cs=true→cs.all V.jc=true→cs.all V.aR=true
 | [],_,_=>rfl
 | a::aD,hp,hc=>by
   simp only[V.ak,af2] at hp
   simp only[agj,af2] at hc ⊢
   refine⟨?_,jH hp.2 hc.2⟩
   have h1:=hp.1
   have h2:=hc.1
   cases a<;>simp_all[V.au,V.jc]
theorem rS (h1:ba Y μ1) {U:Nat→Prop} {A:Nat→Option Nat} {φ:Nat→Row} {O:Nat→Obj} {gs:List (Nat×Nat×Nat)} {c:V} {rs:List Nat} {val:Value} {r:Nat} {k:V→Act} {p:V×St}
  (ht:fU Y μf μ1 U A φ O) (Ga: ∀x ∈ gs,oQ μ1 φ O x.1 x.2.1 x.2.2) (he:FN Y μ1 n c rs val) (hU: ∀j ∈ rs,n≤j→ ¬U j) (hd:distinct rs=true) (ah: (jJ bA r gs c k).run C ⟨T,O⟩=some p):
  DJ Y μf μ1 C T (fun j=>U j∨(bA=true∧j ∈ rs)) A φ O k p fun φ' O' c'=>aj ⟨Y.toTrEnv,after Y μ1 n bA,Y.tok⟩ (quiet μ1 φ' O') c' val:=by
 unfold jJ at ah
 split at ah
 ·rename_i hp
  refine⟨A,φ,O,c,ah,ht.more fun j h=> .inl h,ef.refl _ _,fun _ h=>h,?_⟩
  cases he with
  | cell h=>
    cases h with
    | pure Dg hv=>exact dM (X:=Y) (μ:=μ1) (μ':=quiet μ1 φ O) rfl (fun b=>kZ) hp hv
    | sl=>simp[V.au] at hp
    | own=>simp[V.au] at hp
  | @agg cs _ vals hc h=>
    have Dg:V.ak cs=true:=by simpa [V.au] using hp
    obtain⟨hv,_⟩:=h.aV Dg
    simp only[aj]
    exact⟨jH Dg hc,_,rfl,bN (X:=Y) (μ:=μ1) (μ':=quiet μ1 φ O) rfl (fun b=>kZ) Dg hv⟩
 ·cases he with
  | cell h=>
    cases h with
    | pure hp hv=>rename_i hnp;exact absurd hp hnp
    | sl hr bo hg hl hv=>
      obtain⟨A1,φ1,O1,c1,k1,k2,k3,k4,k5,k6⟩:=jG h1 ht ht.lo Ga (.sl hr bo hg hl hv) hU ah
      exact⟨A1,φ1,O1,c1,k1,k2,k3,k4,k5⟩
    | own hr bo gu hg hl hp hv=>
      obtain⟨A1,φ1,O1,c1,k1,k2,k3,k4,k5,k6⟩:=jG h1 ht ht.lo Ga (.own hr bo gu hg hl hp hv) hU ah
      exact⟨A1,φ1,O1,c1,k1,k2,k3,k4,k5⟩
  | agg hc h=>
    obtain⟨A1,φ1,O1,c1,k1,k2,k3,k4,k5,k6⟩:=uH h1 ht Ga h hU hd ah
    refine⟨A1,φ1,O1,_,k1,k2,k3,k4,?_⟩
    simp only[aj]
    exact⟨k6 hc,_,rfl,k5⟩
theorem zY (h1:ba Y μ1): ∀ {U:Nat→Prop} {A:Nat→Option Nat} {φ:Nat→Row} {O:Nat→Obj} {gs:List (Nat×Nat×Nat)} {cs:List V} {rs:List Nat} {vals:List Value} {r:Nat} {k:List V→Act} {p:V×St},
   fU Y μf μ1 U A φ O→(∀x ∈ gs,oQ μ1 φ O x.1 x.2.1 x.2.2)→pN Y μ1 n cs rs vals→(∀j ∈ rs,n≤j→ ¬U j)→distinct rs=true→(jU bA r gs cs k).run C ⟨T,O⟩=some p→
   DJ Y μf μ1 C T (fun j=>U j∨(bA=true∧j ∈ rs)) A φ O k p fun φ' O' cP=>ag ⟨Y.toTrEnv,after Y μ1 n bA,Y.tok⟩ (quiet μ1 φ' O') cP vals:=by
 intro U A φ O gs cs rs vals r k p ht Ga he hU hd ah
 induction he generalizing U A φ O r k with
 | nil=>exact⟨A,φ,O,[],ah,ht.more fun j h=> .inl h,ef.refl _ _,fun _ h=>h,by simp[ag]⟩
 | @cons c rs rs' val cs vals h hs ih=>
   obtain⟨d1,d2,d3⟩:=ki hd
   simp only[jU] at ah
   obtain⟨A1,φ1,O1,c1,k1,k2,k3,k4,k5⟩:=rS h1 ht Ga h (fun j hj=>hU j (by simp[hj])) d1 ah
   obtain⟨A2,φ2,O2,cs2,m1,m2,m3,m4,m5⟩:=ih k2 (fun x hx=> (Ga x hx).mono k3) (fun j hj hn hu=>by
    rcases hu with hu| ⟨_,hu⟩
    ·exact hU j (by simp[hj]) hn hu
    ·exact d3 j hj hu) d2 k1
   refine⟨A2,φ2,O2,c1::cs2,m1,m2.more fun j hj=> ?_,k3.trans m3,fun r' h=>m4 r' (k4 r' h),?_⟩
   ·rcases hj with(hj| ⟨e,hj⟩) | ⟨e,hj⟩
    ·exact .inl hj
    ·exact .inr ⟨e,by simp[hj]⟩
    ·exact .inr ⟨e,by simp[hj]⟩
   ·simp only[ag];exact⟨aj.mono (Gx m3) k5,m5⟩
theorem pN.aV {cs:List V} {rs:List Nat} {vals:List Value} (h:pN Y μ1 n cs rs vals) (hp:V.ak cs=true):ag Y μ1 cs vals∧rs=[]:=by
 induction h with
 | nil=>simp[ag]
 | cons h hs ih=>
   simp only[V.ak,af2] at hp
   obtain⟨i1,i2⟩:=ih hp.2
   cases h with
   | cell h=>
     cases h with
     | pure Dg hv=>simp only[ag];exact⟨⟨hv,i1⟩,by simpa using i2⟩
     | sl=>simp[V.au] at hp
     | own=>simp[V.au] at hp
   | @agg cs _ vals hc h=>
     have Dg:V.ak cs=true:=by simpa [V.au] using hp.1
     obtain⟨hv,e⟩:=h.aV Dg
     subst e
     simp only[ag,aj]
     exact⟨⟨⟨jH Dg hc,_,rfl,hv⟩,i1⟩,by simpa using i2⟩
end
end Go.AM
namespace Go.AM
open Go Go.RowKit
mutual
theorem lS: ∀ {x:V},V.isScalar x=true→V.au x=true
 | .bool _,_| .int ..,_| .float _,_| .str _,_| .nilp,_| .nilfn,_| .nili,_| .nils,_=>rfl
 | .any,hp| .own ..,hp| .msl ..,hp| .mptr ..,hp| .sl ..,hp| .ptr ..,hp| .lit ..,hp| .eptr ..,hp| .litk ..,hp| .epk ..,hp| .mp ..,hp| .it ..,hp| .mlit ..,hp| .fn ..,hp| .bfn ..,hp| .iface ..,hp=>by simp[V.isScalar] at hp
 | .agg cs,hp=>by simpa [V.au] using gD (by simpa [V.isScalar] using hp)
 | .tuple cs,hp=>by simpa [V.au] using gD (by simpa [V.isScalar] using hp)
theorem gD: ∀ {xs:List V},V.bj xs=true→V.ak xs=true
 | [],_=>rfl
 | x::xs,hp=>by
   simp only[V.bj,af2] at hp
   simp only[V.ak,af2]
   exact⟨lS hp.1,gD hp.2⟩
end
section
variable {Y:Ctx} {μf μ1:Mu} {n:Nat} {bA:Bool} {C:bn} {T:Nat→V}
def Tu (Y:Ctx) (μ:Mu) (n:Nat) (v:V) (rs:List Nat) (val:Value):Prop:=
 FN Y μ n v rs val∨ ∃vs us,v= .tuple vs∧val= .tuple us∧pN Y μ n vs rs us.toList
theorem dv.abd (h1:ba Y μ1) {T':Nat→V} {v0 v:V} {rs:List Nat} {val:Value} (hv:aj Y μ1 v0 val) (h:dv n ⟨T',μ1.O⟩ v0 v rs):Tu Y μ1 n v rs val:=by
 cases h with
 | one h=>exact .inl (mS h1 hv h)
 | many h=>
   simp only[aj] at hv
   obtain⟨us,rfl,hv⟩:=hv
   exact .inr ⟨_,us,rfl,rfl,lG h1 hv h⟩
theorem Tu.pure {v:V} {rs:List Nat} {val:Value} (h:Tu Y μ1 n v rs val) (hp:V.au v=true):aj Y μ1 v val:=by
 rcases h with h| ⟨vs,us,rfl,rfl,h⟩
 ·have hs:pN Y μ1 n [v] (rs++[]) [val]:= .cons h .nil
  have:=(hs.aV (by simp[V.ak,hp])).1
  simp only[ag] at this
  exact this.1
 ·simp only[aj]
  exact⟨us,rfl,(h.aV (by simpa [V.au] using hp)).1⟩
theorem xt (h1:ba Y μ1) {U:Nat→Prop} {A:Nat→Option Nat} {φ:Nat→Row} {O:Nat→Obj} {gs:List (Nat×Nat×Nat)} {c v:V} {rs:List Nat} {val:Value} {r:Nat} {σ':St}
  (ht:fU Y μf μ1 U A φ O) (Ga: ∀x ∈ gs,oQ μ1 φ O x.1 x.2.1 x.2.2) (he:Tu Y μ1 n c rs val) (hU: ∀j ∈ rs,n≤j→ ¬U j) (hd:distinct rs=true) (ah: (ej bA r gs c .done).run C ⟨T,O⟩=some (v,σ')):
  σ'.T=T∧((V.au c=true∧v=c∧σ'.O=O∧aj Y μ1 c val)∨ ∃A' φ',fU Y μf μ1 (fun j=>U j∨(bA=true∧j ∈ rs)) A' φ' σ'.O∧ef φ O φ' σ'.O∧(∀r,A r≠none→A' r≠none)∧aj ⟨Y.toTrEnv,after Y μ1 n bA,Y.tok⟩ (quiet μ1 φ' σ'.O) v val):=by
 unfold ej at ah
 split at ah
 ·rename_i hp
  obtain⟨rfl,rfl⟩:=aY ah
  exact⟨rfl,.inl ⟨hp,rfl,rfl,he.pure hp⟩⟩
 ·rename_i hnp
  split at ah
  ·rename_i vs
   rcases he with he| ⟨vs',us,e,rfl,he⟩
   ·cases he with
    | cell h=>
      cases h with
      | pure hp hv=>exact absurd hp hnp
   ·injection e with e;subst e
    obtain⟨A1,φ1,O1,c1,k1,k2,k3,k4,k5⟩:=zY h1 ht Ga he hU hd ah
    obtain⟨rfl,rfl⟩:=aY k1
    refine⟨rfl,.inr ⟨A1,φ1,k2,k3,k4,?_⟩⟩
    simp only[aj]
    exact⟨us,rfl,k5⟩
  ·rename_i hnt
   rcases he with he| ⟨vs',us,e,rfl,he⟩
   ·obtain⟨A1,φ1,O1,c1,k1,k2,k3,k4,k5⟩:=rS h1 ht Ga he hU hd ah
    obtain⟨rfl,rfl⟩:=aY k1
    exact⟨rfl,.inr ⟨A1,φ1,k2,k3,k4,k5⟩⟩
   ·exact absurd e (hnt vs')
end
section
variable {X:Ctx} {μ μ1:Mu} {r0:Nat}
theorem vL {aD:List V} {vals:List Value} {rs:List Nat} {ws:List eh} (ho:ba X μ) (hp:lO X μ r0 0 aD vals rs ws)
  (le:Le ⟨μ.w,eU μ.φ ws,(enter aD).O⟩ μ1) (h1:ba ⟨X.toTrEnv,c6 X μ rs ws,X.tok⟩ μ1) {Of:Nat→Obj} (hf:ba X ⟨μ.w,μ.φ,Of⟩) (UI: ∀w ∈ ws,Of w.r=μ.O w.r)
  {U:Nat→Prop} {A:Nat→Option Nat} {φ:Nat→Row} {O:Nat→Obj} (ht:fU ⟨X.toTrEnv,c6 X μ rs ws,X.tok⟩ ⟨μ.w,μ.φ,Of⟩ μ1 U A φ O) (hm:ef μ.φ Of φ O) (hA: ∀w ∈ ws,A w.r≠none)
  (hT: ∀j,U j→((∀es,(μ1.O j).es=some es→V.bj es=true))∨ ∀b,Own X ⟨μ1.w,φ,O⟩ b→Own ⟨X.toTrEnv,c6 X μ rs ws,X.tok⟩ μ1 b):
  Le ⟨μ.w,μ.φ,Of⟩ ⟨μ1.w,φ,O⟩∧ba X ⟨μ1.w,φ,O⟩:=by
 have UK: ∀b,(⟨μ.w,eU μ.φ ws,(enter aD).O⟩:Mu).own b→ ∃w ∈ ws,(Of w.r).es.isSome=true∧(Of w.r).fz=false∧(μ.φ w.r).cap≠0∧(μ.φ w.r).bV=b:=fun b hb=>by
  obtain⟨i,r,k1,k2,k3,k4,k5⟩:=vI hp hb
  have e:=UI _ k1
  simp only at e
  exact⟨_,k1,by rw[e];exact k2,by rw[e];exact k3,k4,k5⟩
 have abe: ∀j,(μ1.O j).es.isSome=true∧(μ1.O j).fz=false→(μ1.φ j).cap≠0→μ1.own (μ1.φ j).bV:=fun j hl hc=> ⟨j,hl.1,hl.2,hc,rfl⟩
 have kept: ∀r,A r=none→(Of r).es.isSome=true→(μ.φ r).cap≠0→(μ.φ r).bV<μ.w.heap.size∧μ1.w.heap[(μ.φ r).bV]? =μ.w.heap[(μ.φ r).bV]? ∧ ¬μ1.own (μ.φ r).bV:=fun r hr hs hc=>by
  obtain⟨es,he⟩:=af8.1 hs
  have bk: (μ.φ r).bV<μ.w.heap.size:=fR.bV (μ:=⟨μ.w,μ.φ,Of⟩) (hf.ok r es he) hc
  have gR: ¬ (⟨μ.w,eU μ.φ ws,(enter aD).O⟩:Mu).own (μ.φ r).bV:=fun hb=>by
    obtain⟨w,k1,k2,k3,k4,k5⟩:=UK _ hb
    have cF:w.r≠r:=fun e=>hA w k1 (e ▸ hr)
    exact hf.inj w.r r cF k2 hs k4 hc k5
  obtain⟨l1,l2⟩:=le.bS _ bk gR
  exact⟨bk,l1,l2⟩
 have afa: ∀b,(⟨μ1.w,φ,O⟩:Mu).own b→(⟨μ.w,μ.φ,Of⟩:Mu).own b∨μ1.own b:=fun b hb=>by
  obtain⟨r,k1,k2,k3,k4⟩:=hb
  simp only at k1 k2 k3 k4
  cases e:A r with
  | none=>
    obtain⟨n1,n2⟩:=ht.Gw r e
    rw[n1] at k1 k2
    rw[n2] at k3 k4
    exact .inl ⟨r,k1,k2,k3,k4⟩
  | some j=>
    obtain⟨t,_⟩:=ht.Cc r j e
    obtain⟨b1,b2⟩:=t.bV k3
    exact .inr ⟨j,t.live.1,t.live.2,b1,by rw[←b2];exact k4⟩
 have LE:Le ⟨μ.w,μ.φ,Of⟩ ⟨μ1.w,φ,O⟩:=by
  refine⟨le.size,fun b hb gR=> ?_,fun r=> (hm r).1,fun r e=> (hm r).2 e,le.os,le.output,le.tape,le.frozen⟩
  have afb: ¬ (⟨μ.w,eU μ.φ ws,(enter aD).O⟩:Mu).own b:=fun kI=>by
    obtain⟨w,k1,k2,k3,k4,k5⟩:=UK _ kI
    exact gR ⟨w.r,k2,k3,k4,k5⟩
  obtain⟨l1,l2⟩:=le.bS b hb afb
  exact⟨l1,fun h3=> (afa b h3).elim gR l2⟩
 refine⟨LE,fun r es bo=> ?_,fun r1 r2 cF e1 e2 e3 e4 e5=> ?_,fun r k1 k2 hb=> ?_,fun b hb=>af9 (ho.blt b hb) le.size⟩
 ·simp only at bo
  cases e:A r with
  | none=>
    obtain⟨n1,n2⟩:=ht.Gw r e
    simp only at n1 n2
    rw[n1] at bo
    exact fR.bS (r:=r) (r':=r) LE (hf.ok r es bo) (by simp[n1]) (by simp[n2]) (fun hc=> (kept r e (by simp[bo]) hc).2.1)
  | some j=>
    obtain⟨t,hu⟩:=ht.Cc r j e
    obtain⟨es',s0,s1,s2,s3,s4,s5⟩:=t.es
    rw[bo] at s0;injection s0 with s0;subst s0
    left
    unfold mB
    simp only
    refine⟨s2,s3,s4,s5.imp id ?_⟩
    rintro⟨c,TT,vs,p1,p2,p3,p4⟩
    refine⟨c,TT,vs,p1,p2,?_,p4⟩
    rcases hT j hu with hs| hs
    ·exact bQ (X:=⟨X.toTrEnv,c6 X μ rs ws,X.tok⟩) (μ:=μ1) (X':=X) (μ':=⟨μ1.w,φ,O⟩) rfl (t.sc hs _ bo) p3
    ·exact bN (X:=⟨X.toTrEnv,c6 X μ rs ws,X.tok⟩) (μ:=μ1) (B:=X.Us) (μ':=⟨μ1.w,φ,O⟩) rfl hs s1 p3
 ·simp only at e1 e2 e3 e4 e5
  cases a1:A r1 with
  | none=>
    obtain⟨n1,n2⟩:=ht.Gw r1 a1
    simp only at n1 n2
    rw[n1] at e1;rw[n2] at e3 e5
    cases a2:A r2 with
    | none=>
      obtain⟨m1,m2⟩:=ht.Gw r2 a2
      simp only at m1 m2
      rw[m1] at e2;rw[m2] at e4 e5
      exact hf.inj r1 r2 cF e1 e2 e3 e4 e5
    | some j=>
      obtain⟨t,_⟩:=ht.Cc r2 j a2
      obtain⟨b1,b2⟩:=t.bV e4
      exact(kept r1 a1 e1 e3).2.2 (by rw[e5,b2];exact abe j t.live b1)
  | some j=>
    obtain⟨t,_⟩:=ht.Cc r1 j a1
    obtain⟨b1,b2⟩:=t.bV e3
    cases a2:A r2 with
    | none=>
      obtain⟨m1,m2⟩:=ht.Gw r2 a2
      simp only at m1 m2
      rw[m1] at e2;rw[m2] at e4 e5
      exact(kept r2 a2 e2 e4).2.2 (by rw[←e5,b2];exact abe j t.live b1)
    | some j2=>
      obtain⟨t2,_⟩:=ht.Cc r2 j2 a2
      obtain⟨c1,c2⟩:=t2.bV e4
      refine h1.inj j j2 (fun e=>cF (ht.inj r1 r2 j a1 (e ▸ a2))) t.live.1 t2.live.1 b1 c1 ?_
      rw[←b2,←c2];exact e5
 ·simp only at k1 k2 hb
  cases a1:A r with
  | none=>
    obtain⟨n1,n2⟩:=ht.Gw r a1
    simp only at n1 n2
    rw[n1] at k1;rw[n2] at k2 hb
    exact hf.sS r k1 k2 hb
  | some j=>
    obtain⟨t,_⟩:=ht.Cc r j a1
    obtain⟨b1,b2⟩:=t.bV k2
    exact h1.sS j t.live.1 b1 (.inl (b2 ▸ hb))
end
end Go.AM
namespace Go.AM
open Go Go.RowKit
section
variable {X:Ctx} {μ μ1:Mu} {r0:Nat} {C:bn} {T:Nat→V}
theorem IQ {r:Nat} {bA:Bool} {v:V} (h:uZ r bA v=true): ∃sz xs,v= .own sz xs∧bA=false∧V.bj xs=true:=by
 cases v<;>simp[uZ] at h
 rename_i sz xs
 exact⟨sz,xs,rfl,h.2.1,h.2.2⟩
theorem Tv {aD:List V} {vals:List Value} {rs:List Nat} {ws:List eh} (ho:ba X μ) (hp:lO X μ r0 0 aD vals rs ws)
   (le:Le ⟨μ.w,eU μ.φ ws,(enter aD).O⟩ μ1) (h1:ba ⟨X.toTrEnv,c6 X μ rs ws,X.tok⟩ μ1) {U:Nat→Prop} {A:Nat→Option Nat} {φ:Nat→Row} {O:Nat→Obj}
   (ht:fU ⟨X.toTrEnv,c6 X μ rs ws,X.tok⟩ ⟨μ.w,μ.φ,μ.O⟩ μ1 U A φ O) (hA: ∀w ∈ ws,A w.r≠none) {n:Nat} (hU: ∀j,U j→j<n) {sz:Nat} {xs:List V} {refs:List Nat} {val:Value}
   (he:Tt ⟨X.toTrEnv,c6 X μ rs ws,X.tok⟩ μ1 n (.own sz xs) refs val) (hs:V.bj xs=true):aj X ⟨μ1.w,φ,O⟩ (.lit sz xs) val:=by
 cases he with
 | pure mr _=>simp[V.au] at mr
 | @own r g off len es _ hr bo gu hg hl mr h=>
   simp only[aj] at h
   obtain⟨a0,cap,rfl,hle,_,bT⟩:=h
   obtain⟨z1,z2,z3⟩:=bT hg
   obtain⟨q1,q2,q3,q4⟩:=h1.row r es bo z1
   have oa: (aF es off len).length=len:=by simp[aF];omega
   simp only[aj]
   refine⟨mr,?_,a0,cap,?_⟩
   ·simp only[af5] at q3 ⊢
    exact fun x hx=> (cm (q3 x (agF (agp hx)))).1
   by_cases cM:cap=0
   ·have:len=0:=ae0
    subst this
    refine⟨[],by rw[oa],by rw[oa];omega,?_,.inl ?_⟩
    ·simp[aF,ag]
    ·simp[aF]
   have il: (μ1.φ r).cap≠0:=ae0
   rcases q4 with q4| ⟨cc,TT,vs,p1,p2,p3,p4⟩
   ·exact absurd q4 il
   have p3':=bQ (X:=⟨X.toTrEnv,c6 X μ rs ws,X.tok⟩) (μ:=μ1) (X':=X) (μ':=⟨μ1.w,φ,O⟩) rfl hs (ag.take len (ag.drop off p3))
   refine⟨(vs.drop off).take len,by rw[oa],by rw[oa];omega,p3',.inr ⟨_,_,z3.resolve_left cM,?_,(af1.1 p1).1,(p4.drop off).take len⟩⟩
   have jd:μ1.own (μ1.φ r).bV:=⟨r,by simp[bo],gu,il,rfl⟩
   rintro(⟨r',e1,e2,e3,e4⟩ | Ir)
   ·simp only at e1 e2 e3 e4
    cases e:A r' with
    | none=>
      obtain⟨n1,n2⟩:=ht.Gw r' e
      simp only at n1 n2
      rw[n1] at e1 e2
      rw[n2] at e3 e4
      obtain⟨es',fm⟩:=af8.1 e1
      have bk: (μ.φ r').bV<μ.w.heap.size:=fR.bV (μ:=⟨μ.w,μ.φ,μ.O⟩) (ho.ok r' es' fm) e3
      have gR: ¬ (⟨μ.w,eU μ.φ ws,(enter aD).O⟩:Mu).own (μ.φ r').bV:=fun hb=>by
       obtain⟨i,r2,k1,k2,k3,k4,k5⟩:=vI hp hb
       have cF:r2≠r':=fun e'=>hA _ k1 (by rw[←e] ;exact congrArg A e')
       exact ho.inj r2 r' cF k2 e1 k4 e3 k5
      exact(le.bS _ bk gR).2 (by rw[e4];exact jd)
    | some j=>
      obtain⟨t,hu⟩:=ht.Cc r' j e
      obtain⟨b1,b2⟩:=t.bV e3
      have hj:=hU j hu
      exact h1.inj j r ae0 t.live.1 (by simp[bo]) b1 il (by rw[←b2];exact e4)
   ·exact h1.sS r (by simp[bo]) il (.inl Ir)
theorem Cd {aD:List V} {vals:List Value} {rs:List Nat} {ws:List eh} (ho:ba X μ) (hp:lO X μ r0 0 aD vals rs ws) (Aw:apart rs (ws.map (·.r))=true) (hd:distinct (ws.map (·.r))=true)
  (le:Le ⟨μ.w,eU μ.φ ws,(enter aD).O⟩ μ1) (h1:ba ⟨X.toTrEnv,c6 X μ rs ws,X.tok⟩ μ1) {res:eL} {refs:List Nat} {v0:V} {val:Value} {T':Nat→V} (hv:aj ⟨X.toTrEnv,c6 X μ rs ws,X.tok⟩ μ1 v0 val)
  (SZ:dv aD.length ⟨T',μ1.O⟩ v0 res.val refs) (hdr:distinct refs=true) (Qy:cI μ1.O 0 aD=some res.outs) {bA:Bool} {r:Nat} {v:V} {σ':St}
  (ah: (if (res.val.isScalar || uZ r bA res.val) &&res.outs.all (fun o=>V.bj o.2) then fe ws res.outs fun gs=>ej bA r gs res.val .done else dP rs (fe ws res.outs fun gs=>ej bA r gs res.val .done)).run C ⟨T,μ.O⟩=some (v,σ')):
  σ'.T=T∧ ∃φ',aj X ⟨μ1.w,φ',σ'.O⟩ v val∧Le μ ⟨μ1.w,φ',σ'.O⟩∧ba X ⟨μ1.w,φ',σ'.O⟩:=by
 have hR:=SZ.abd h1 hv
 have hi:=hp.inc
 have dg: ∀w ∈ ws,w.fresh=none→(μ1.O w.i).gen=0→μ1.φ w.i=μ.φ w.r:=fun w hw Tw hg=>by
  have Ak: ((enter aD).O w.i).gen=0:=by
   rcases kY hp w.i with h| ⟨_,_,_,_,_,_,h,_⟩ | ⟨_,_,_,h,_⟩
   ·rw[h];rfl
   ·exact h
   ·exact h
  obtain⟨e1,_⟩:=le.row w.i (by rw[hg];exact Ak.symm)
  rw[e1]
  have:=jF (φ:=μ.φ) hi w hw
  rw[Tw] at this
  exact this
 have start: ∀ (Of:Nat→Obj) (S:Nat→Prop),fU ⟨X.toTrEnv,c6 X μ rs ws,X.tok⟩ ⟨μ.w,μ.φ,Of⟩ μ1 (fun j=>j< 0∧S j) (fun _=>none) μ.φ Of:=fun Of S=>
  ⟨fun _ _=> ⟨rfl,rfl⟩,fun _ _ e=>by simp at e,fun _ _ _ e=>by simp at e⟩
 split at ah
 ·rename_i XU
  simp only[af2,aht] at XU
  obtain⟨iY,nZ⟩:=XU
  have hS: ∀w ∈ ws,∀es,(μ1.O w.i).es=some es→V.bj es=true:=fun w hw es he=>by
   obtain⟨g,es',k1,k2⟩:=Qx hp Qy w hw
   rw[he] at k1;injection k1 with k1;subst k1
   exact(af5.1 nZ) _ k2
  obtain⟨A,φ,O,gs,k1,k2,k3,k4,k5,k6⟩:=rR (μf:=⟨μ.w,μ.φ,μ.O⟩) h1 dg rfl (fun _ _=>rfl) (S:=fun j=> ∀es,(μ1.O j).es=some es→V.bj es=true) hS hp Qy (start μ.O _) (fun w hw=>hw) (fun _ _=>rfl) hd ah
  obtain⟨b1,b2⟩:=vL ho hp le h1 (Of:=μ.O) ho (fun _ _=>rfl) k2 k3 k4 (fun j hj=> .inl hj.2)
  rcases iY with iY| iY
  rotate_left
  ·obtain⟨sz,xs,DK,hth,hsx⟩:=IQ iY
   subst hth
   rw[DK] at k1 hR
   have he:Tt ⟨X.toTrEnv,c6 X μ rs ws,X.tok⟩ μ1 aD.length (.own sz xs) refs val:=by
    rcases hR with hR| ⟨vs,us,e,_⟩
    · cases hR with
      | cell h=>exact h
    ·exact nomatch e
   have zp:=Tv (n:=aD.length) ho hp le h1 k2 k4 (fun j hj=>by have:=hj.1;omega) he hsx
   simp only[ej,jJ,dz,V.au,aga,if_false] at k1
   obtain⟨rfl,rfl⟩:=aY k1
   exact⟨rfl,φ,zp,b1,b2⟩
  have mr:=lS iY
  unfold ej at k1
  rw[if_pos mr] at k1
  obtain⟨rfl,rfl⟩:=aY k1
  exact⟨rfl,φ,iu (X:=⟨X.toTrEnv,c6 X μ rs ws,X.tok⟩) (μ:=μ1) (X':=X) (μ':=⟨μ1.w,φ,O⟩) rfl iY (hR.pure mr),b1,b2⟩
 ·obtain⟨Of,f1,f2,f3,f4,f5⟩:=kf (X:=X) (w:=μ.w) (φ:=μ.φ) rs ho ah
  have UI: ∀w ∈ ws,Of w.r=μ.O w.r:=fun w hw=>f4 _ fun hr=>by
   have:=af5.1 Aw w.r (agk.2 ⟨w,hw,rfl⟩)
   simp[hr] at this
  obtain⟨A,φ,O,gs,k1,k2,k3,k4,k5,k6⟩:=rR (μf:=⟨μ.w,μ.φ,Of⟩) h1 dg rfl UI (S:=fun _=>True) (fun _ _=>trivial) hp Qy (start Of _) (fun w hw=>hw) (fun _ _=>rfl) hd f1
  obtain⟨hT,iO⟩:=xt h1 k2 k6 hR (fun j _ hn hu=>by have:=hu.1;omega) hdr k1
  have abf: ∀ {U:Nat→Prop} {A:Nat→Option Nat} {φ:Nat→Row} {O:Nat→Obj},fU ⟨X.toTrEnv,c6 X μ rs ws,X.tok⟩ ⟨μ.w,μ.φ,Of⟩ μ1 U A φ O→(∀w ∈ ws,A w.r≠none)→(∀j,U j→bA=true∨j<aD.length)→
    ∀b,Own X ⟨μ1.w,φ,O⟩ b→after ⟨X.toTrEnv,c6 X μ rs ws,X.tok⟩ μ1 aD.length bA b:=by
   intro U A φ O ht hA hU b hb
   rcases hb with⟨r',q1,q2,q3,q4⟩ | hb
   ·simp only at q1 q2 q3 q4
    cases e:A r' with
    | none=>
      obtain⟨n1,n2⟩:=ht.Gw r' e
      simp only at n1 n2
      rw[n1] at q1 q2;rw[n2] at q3 q4
      have ve:r' ∉ rs:=fun h=>by rw[f5 r' h] at q2;simp at q2
      have oV:r' ∉ ws.map (·.r):=fun h=>by
         obtain⟨w,hw,e'⟩:=agk.1 h
         exact hA w hw (by rw[e'];exact e)
      rw[f4 r' ve] at q1 q2
      exact .inl (.inr ⟨r',ve,oV,q1,q2,q3,q4⟩)
    | some j=>
      obtain⟨t,hu⟩:=ht.Cc r' j e
      obtain⟨b1,b2⟩:=t.bV q3
      exact .inr ⟨j,hU j hu,t.live.1,t.live.2,b1,by rw[←b2];exact q4⟩
   ·exact .inl (.inl hb)
  refine⟨hT,?_⟩
  rcases iO with⟨mr,rfl,hO,hvv⟩ | ⟨A',φ',m1,m2,m3,m4⟩
  ·have jd:=abf k2 k4 (fun j hj=> .inr (by have:=hj.1;omega))
   have Kc: ∀b,Own X ⟨μ1.w,φ,O⟩ b→Own ⟨X.toTrEnv,c6 X μ rs ws,X.tok⟩ μ1 b:=fun b hb=>kZ (φ:=φ) (O:=O) (.inr (jd b hb))
   obtain⟨b1,b2⟩:=vL ho hp le h1 (Of:=Of) f3 UI k2 k3 k4 (fun j hj=> .inr Kc)
   rw[hO]
   exact⟨φ,dM (X:=⟨X.toTrEnv,c6 X μ rs ws,X.tok⟩) (μ:=μ1) (B:=X.Us) (μ':=⟨μ1.w,φ,O⟩) rfl Kc mr hvv,f2.trans b1,b2⟩
  ·have hA': ∀w ∈ ws,A' w.r≠none:=fun w hw=>m3 _ (k4 w hw)
   have jd:=abf m1 hA' (fun j hj=>hj.elim (fun h=> .inr (by have:=h.1;omega)) fun h=> .inl h.1)
   have Kc: ∀b,Own X ⟨μ1.w,φ',σ'.O⟩ b→Own ⟨X.toTrEnv,c6 X μ rs ws,X.tok⟩ μ1 b:=fun b hb=>kZ (φ:=φ') (O:=σ'.O) (.inr (jd b hb))
   obtain⟨b1,b2⟩:=vL ho hp le h1 (Of:=Of) f3 UI m1 (k3.trans m2) hA' (fun j hj=> .inr Kc)
   refine⟨φ',weaken (X:=⟨X.toTrEnv,after ⟨X.toTrEnv,c6 X μ rs ws,X.tok⟩ μ1 aD.length bA,X.tok⟩) (μ:=quiet μ1 φ' σ'.O) (X':=X) (μ':=⟨μ1.w,φ',σ'.O⟩) rfl rfl rfl rfl (fun _=> ⟨rfl,rfl⟩) (fun b hb=> .inr (jd b hb)) m4,f2.trans b1,b2⟩
end
end Go.AM
namespace Go.AM
open Go Go.RowKit
section
variable {X:Ctx} {E:Env} {C:bn} {o:Oper} {a:Go.Act} {T:Nat→V} {μ:Mu} {v:V} {σ':St}
theorem UL {C:bn} {act:Act}: ∀ {σ σ':St} {v:V},act.run C σ=some (v,σ')→σ'.T=σ.T:=by
 induction act with
 | done u=>intro σ σ' v h;obtain⟨_,rfl⟩:=aY h;rfl
 | fail=>intro σ σ' v h;exact absurd h aq
 | mY t k ih=>intro σ σ' v h;exact ih _ h
 | bP r k ih=>intro σ σ' v h;exact ih _ h
 | bM r o k ih=>intro σ σ' v h;have:=ih h;simpa using this
 | call f aD k ih=>
   intro σ σ' v h
   simp only[Act.run] at h
   split at h
   ·exact ih _ h
   ·simp at h
theorem J0 {Y:Ctx} {μ:Mu} {W':World} (hg:μ.w.grownBy W' none) (ho:ba Y μ):Le μ ⟨W',μ.φ,μ.O⟩∧ba Y ⟨W',μ.φ,μ.O⟩:=by
 have hb: ∀k,k<μ.w.heap.size→W'.heap[k]? =μ.w.heap[k]? :=fun k hk=>hg.block k hk afU
 have st:iz Y μ W':=mw hg
 refine⟨⟨hg.size,fun b kI hn=> ⟨hb b kI,hn⟩,fun _=>af6 _,fun _ _=> ⟨rfl,rfl⟩,hg.os,hg.output,hg.tape,fun ad LI=>by simp only[World.frozen?,hb ad.block LI]⟩,?_⟩
 exact ho.ck st fun r h1 h2=>hb _ (sx ho h1 h2)
def vM (X:TrEnv) (F:FuncId) (h:List V→List V→Option (V×List V)):Prop:= ∀es aD v es',h es aD=some (v,es')→V.isScalar v=true∧V.bj es'=true∧
 ∀ (Y:Ctx) (μ:Mu) (b:Nat) (ents:Array MapEntry) (clock:Nat) (vals:List Value),Y.toTrEnv=X→μ.w.heap[b]? =some (.map ents clock)→gr ents clock→ag Y μ es (ents.toList.map oY)→ag Y μ aD vals→V.bj aD=true→
  sC X.P ((callFunc F (Value.agg #[.map (some b)]::vals).toArray).run X.P μ.w) fun val w'=>aj Y μ v val∧μ.w.grownBy w' (some b)∧ ∃oR mV,w'.heap[b]? =some (.map oR mV)∧gr oR mV∧ag Y μ es' (oR.toList.map oY)
theorem DL {μ:Mu} {r:Nat} {es es':List V} {v:V} {val:Value} {w':World} (ho:ba X μ) (bo: (μ.O r).es=some es) (bF: (μ.O r).sz=0) (gu: (μ.O r).fz=false) (iY:V.isScalar v=true) (nZ:V.bj es'=true)
  (hh: (μ.φ r).cap≠0) {ents:Array MapEntry} {clock:Nat} (hb:μ.w.heap[(μ.φ r).bV]? =some (.map ents clock)) (bl:ag X μ es (ents.toList.map oY)) (cr:gr ents clock)
  (hv:aj X μ v val) (hg:μ.w.grownBy w' (some (μ.φ r).bV)) {oR:Array MapEntry} {mV:Nat} (kI:w'.heap[(μ.φ r).bV]? =some (.map oR mV)) (WO:gr oR mV) (J6:ag X μ es' (oR.toList.map oY)):
  aj X ⟨w',μ.φ,cU μ.O r {μ.O r with es:=some es'}⟩ v val∧Le μ ⟨w',μ.φ,cU μ.O r {μ.O r with es:=some es'}⟩∧ba X ⟨w',μ.φ,cU μ.O r {μ.O r with es:=some es'}⟩:=by
 obtain⟨le1,Uy⟩:=gv ho r (es':=es') (ob':= .map oR mV) bo gu bF hb hh (.inl ⟨ents,clock,rfl,bl,cr⟩) (.inl ⟨oR,mV,rfl,J6,WO⟩)
 have bk: (μ.φ r).bV<μ.w.heap.size:=(af1.1 hb).1
 have HF: ({μ.w with heap:=μ.w.heap.set! (μ.φ r).bV (.map oR mV)}:World).grownBy w' none:=by
  refine⟨hg.os,hg.tape,hg.output,by simpa using hg.size,fun k hk _=> ?_⟩
  by_cases e:k=(μ.φ r).bV
  ·subst e
   rw[kI];simp[ag1,bk]
  ·have hk':k<μ.w.heap.size:=by simpa using hk
   rw[hg.block k hk' (by simp;omega)]
   simp[ag1,ag8 e]
 obtain⟨Iu,Ux⟩:=J0 (μ:=⟨{μ.w with heap:=μ.w.heap.set! (μ.φ r).bV (.map oR mV)},μ.φ,cU μ.O r {μ.O r with es:=some es'}⟩) HF Uy
 exact⟨iu rfl iY hv,le1.trans Iu,Ux⟩
theorem qY {h:Rel X T a μ} (O:Nat→Obj): ∀ {xs:List Operand} {ys:List aT},nD X xs=some ys→ag X μ (ys.map (bu ⟨T,O⟩)) (xs.map a.eval)
 | [],ys,e=>by simp[nD] at e;subst e;simp[ag]
 | x::xs,ys,e=>by
   simp only[nD] at e
   split at e
   ·rename_i y ys' h1 h2
    injection e with e;subst e
    simp only[List.map_cons,ag]
    exact⟨aQ h h1 O,qY (h:=h) O h2⟩
   ·simp at e
theorem Qz (hC: ∀f F aD res,X.fo F=some f→C f aD=some res→bG X.toTrEnv F aD res) (hM: ∀f F h,E.Cs f=some h→X.fo F=some f→vM X.toTrEnv F h) {h:Hints} {dst:Nat} {c:Call} {rj:sW} (hr:Rel X T a μ) (ho:o.op= .call c) (aJ:zw X h dst c=some rj) (Iy:rj.jE=true)
  (ah: (aH E rj).run C ⟨T,μ.O⟩=some (v,σ')):σ'.T=T∧ ∀ (next:Go.Act→World→Prop) (Q:Go.Exit→Go.Act→World→Prop),
  (∀val w' φ',aj X ⟨w',φ',σ'.O⟩ v val→Le μ ⟨w',φ',σ'.O⟩→ba X ⟨w',φ',σ'.O⟩→next (a.put o.dst val) w')→o.wp X.P a μ.w next Q:=by
 unfold zw at aJ
 split at aJ
 ·rename_i f WQ
  split at aJ
  ·rename_i f' Wx hf has
   injection aJ with aJ;subst aJ
   simp only[aH,bz] at ah
   split at ah
   ·rename_i f0 caps RC
    rw[oC] at ah
    have Tw:=aQ hr hf μ.O
    rw[RC] at Tw
    simp only[aj] at Tw
    obtain⟨F,cv,hF,Mg,uE⟩:=Tw
    have j6:=(qY (h:=hr) μ.O has).append uE
    simp only[lh] at ah
    obtain⟨aD,rs,ws,h1,hp⟩:=eH hr.a8 j6 ah
    split at h1
    ·rename_i uy
     simp only[af2] at uy
     obtain⟨Aw,hd⟩:=uy
     simp only[Act.run] at h1
     split at h1
     ·rename_i res iO
      have hS:=hC f0 F aD res Mg iO
      obtain⟨e1,e2,e3⟩:=wV hr.a8 hp Aw hd
      have hU:=hS (c6 X μ rs ws) X.tok μ.w (eU μ.φ ws) _ e1 e2 e3
      have jl: (execOp a.eval o).run X.P μ.w=(callFunc F (List.map a.eval c.args.toList++cv.toList).toArray).run X.P μ.w:=by
       have hea: (c.args.map a.eval)++cv=(List.map a.eval c.args.toList++cv.toList).toArray:=by
        apply ag3.1;simp
       simp only[execOp,ho,resolve,WQ,hF,Deferred.ofValue,Sem.run_bind]
       rw[←hea]
       simp[invoke,Sem.run]
      have key: ∀val w',(∃φ' T' O' v0 refs,Le ⟨μ.w,eU μ.φ ws,(enter aD).O⟩ ⟨w',φ',O'⟩∧ba ⟨X.toTrEnv,c6 X μ rs ws,X.tok⟩ ⟨w',φ',O'⟩∧
        aj ⟨X.toTrEnv,c6 X μ rs ws,X.tok⟩ ⟨w',φ',O'⟩ v0 val∧dv aD.length ⟨T',O'⟩ v0 res.val refs∧distinct refs=true∧cI O' 0 aD=some res.outs)→
        σ'.T=T∧ ∃φ',aj X ⟨w',φ',σ'.O⟩ v val∧Le μ ⟨w',φ',σ'.O⟩∧ba X ⟨w',φ',σ'.O⟩:=by
       rintro val w' ⟨φ',T',O',v0,refs,k1,k2,k3,k4,k5,k6⟩
       exact Cd hr.a8 hp Aw hd k1 k2 k3 k4 k5 k6 h1
      have hTT:σ'.T=T:=UL h1
      refine⟨hTT,fun next Q hn=> ?_⟩
      unfold Oper.wp
      rw[jl]
      exact hU.upon fun val w' hv=>by
       obtain⟨_,φ',q1,q2,q3⟩:=key val w' hv
       exact hn val w' φ' q1 q2 q3
     ·simp at h1
    ·exact absurd h1 aq
   ·rename_i f0 caps RC
    rw[oC] at ah
    have Tw:=aQ hr hf μ.O
    rw[RC] at Tw
    simp only[aj] at Tw
    obtain⟨F,cv,hF,Mg,uE⟩:=Tw
    split at ah
    ·rename_i r' g' hM' hrecv hEx
     have hrv:caps=[.agg [.mp r' g']]:=by
      unfold Cx at hrecv
      split at hrecv
      ·simp only[afY,af4] at hrecv;obtain⟨rfl,rfl⟩:=hrecv;rfl
      ·simp at hrecv
     subst hrv
     simp only[Ji,Act.run] at ah
     split at ah
     ·rename_i es bo
      split at ah
      ·rename_i afc
       obtain⟨cE,bF,gu,Rg,htp⟩:=afc
       split at ah
       ·rename_i u es' hh
        simp only[Act.run,afY,af4] at ah
        obtain⟨rfl,rfl⟩:=ah
        obtain⟨iY,nZ,hup⟩:=hM f0 F hM' hEx Mg es _ u es' hh
        have j6:=qY (h:=hr) μ.O has
        obtain⟨cvl,hcv⟩: ∃l,cv.toList=l:=⟨_,rfl⟩
        rw[hcv] at uE
        match cvl,uE with
        |   [rv],uE=>
            simp only[ag,aj,and_true] at uE
            obtain⟨_,vs,rfl,lE⟩:=uE
            obtain⟨vsl,BN⟩: ∃l,vs.toList=l:=⟨_,rfl⟩
            rw[BN] at lE
            match vsl,lE with
            | [mv],lE=>
              simp only[ag,aj,and_true] at lE
              obtain⟨b,rfl,oO,bT⟩:=lE
              obtain⟨_,rfl⟩:=bT cE
              obtain⟨cM,ents,clock,hm,bl,cr⟩: (μ.φ r').cap≠0∧ ∃ents clock,μ.w.heap[(μ.φ r').bV]? =some (.map ents clock)∧ag X μ es (ents.toList.map oY)∧gr ents clock:=by
                rcases hr.a8.ents r' es bo bF with h| ⟨_,s,pos,_,rfl⟩ | ⟨lX,rfl⟩
                ·exact h
                ·simp[V.isTuple] at htp
                ·simp[V.isTuple] at htp
              have hU:=hup X μ (μ.φ r').bV ents clock _ rfl hm cr bl j6 Rg
              have jl: (execOp a.eval o).run X.P μ.w=(callFunc F (Value.agg #[.map (some (μ.φ r').bV)]::List.map a.eval c.args.toList).toArray).run X.P μ.w:=by
                have afd:vs= #[.map (some (μ.φ r').bV)]:=ag3.1 (by rw[BN])
                have afe:cv= #[.agg #[.map (some (μ.φ r').bV)]]:=ag3.1 (by rw[hcv,afd])
                have hea:cv++(c.args.map a.eval)=(Value.agg #[.map (some (μ.φ r').bV)]::List.map a.eval c.args.toList).toArray:=by
                 apply ag3.1;rw[afe];simp
                simp only[execOp,ho,resolve,WQ,hF,Deferred.ofValue,Sem.run_bind]
                rw[←hea]
                simp[invoke,Sem.run]
              refine⟨rfl,fun next Q hn=> ?_⟩
              unfold Oper.wp
              rw[jl]
              exact hU.upon fun val w' hv=>by
                obtain⟨v1,v2,oR,mV,v3,v4,v5⟩:=hv
                obtain⟨q1,q2,q3⟩:=DL hr.a8 bo bF gu iY nZ cM hm bl cr v1 v2 v3 v4 v5
                exact hn val w' μ.φ q1 q2 q3
       ·exact absurd ah aq
      ·exact absurd ah aq
     ·exact absurd ah aq
    ·have j6:=uE.append (qY (h:=hr) μ.O has)
     simp only[lh] at ah
     obtain⟨aD,rs,ws,h1,hp⟩:=eH hr.a8 j6 ah
     split at h1
     ·rename_i uy
      simp only[af2] at uy
      obtain⟨Aw,hd⟩:=uy
      simp only[Act.run] at h1
      split at h1
      ·rename_i res iO
       have hS:=hC f0 F aD res Mg iO
       obtain⟨e1,e2,e3⟩:=wV hr.a8 hp Aw hd
       have hU:=hS (c6 X μ rs ws) X.tok μ.w (eU μ.φ ws) _ e1 e2 e3
       have jl: (execOp a.eval o).run X.P μ.w=(callFunc F (cv.toList++List.map a.eval c.args.toList).toArray).run X.P μ.w:=by
        have hea:cv++(c.args.map a.eval)=(cv.toList++List.map a.eval c.args.toList).toArray:=by
            apply ag3.1;simp
        simp only[execOp,ho,resolve,WQ,hF,Deferred.ofValue,Sem.run_bind]
        rw[←hea]
        simp[invoke,Sem.run]
       have key: ∀val w',(∃φ' T' O' v0 refs,Le ⟨μ.w,eU μ.φ ws,(enter aD).O⟩ ⟨w',φ',O'⟩∧ba ⟨X.toTrEnv,c6 X μ rs ws,X.tok⟩ ⟨w',φ',O'⟩∧
            aj ⟨X.toTrEnv,c6 X μ rs ws,X.tok⟩ ⟨w',φ',O'⟩ v0 val∧dv aD.length ⟨T',O'⟩ v0 res.val refs∧distinct refs=true∧cI O' 0 aD=some res.outs)→
            σ'.T=T∧ ∃φ',aj X ⟨w',φ',σ'.O⟩ v val∧Le μ ⟨w',φ',σ'.O⟩∧ba X ⟨w',φ',σ'.O⟩:=by
        rintro val w' ⟨φ',T',O',v0,refs,k1,k2,k3,k4,k5,k6⟩
        exact Cd hr.a8 hp Aw hd k1 k2 k3 k4 k5 k6 h1
       have hTT:σ'.T=T:=UL h1
       refine⟨hTT,fun next Q hn=> ?_⟩
       unfold Oper.wp
       rw[jl]
       exact hU.upon fun val w' hv=>by
        obtain⟨_,φ',q1,q2,q3⟩:=key val w' hv
        exact hn val w' φ' q1 q2 q3
      ·simp at h1
     ·exact absurd h1 aq
   ·exact absurd ah aq
  ·simp at aJ
 ·simp at aJ
 ·rename_i b hc
  exfalso
  revert aJ
  split<;> (try split) <;> (try split) <;> (try split) <;>simp<;> (try (intro e;subst e;simp[sW.jE] at Iy)) <;> (try (intros;subst_vars;simp[sW.jE] at Iy)) <;> (try (rintro rfl;simp[sW.jE] at Iy))
  all_goals (split at Iy<;>first| (simp at Iy;done) | (split at Iy<;>simp at Iy) | (rename_i h9;split at h9<;>simp at h9) | (rename_i h9;unfold Th at h9; (repeat' split at h9) <;>simp at h9))
theorem DM {op:BinOp} {t:TypeId} {x y:aT} {rj:sW} (h:J1 X op t x y=some rj):rj.jE=false:=by
 unfold J1 at h
 repeat' split at h
 all_goals first
  | (injection h with h;subst h;rfl)
  | (simp only[afZ] at h;obtain⟨_,_,rfl⟩:=h;rfl)
  | (simp at h;done)
theorem sO {α:Type} {x:Option α} {f:α→sW} {rj:sW} (h:x.map f=some rj) (hf: ∀a,(f a).jE=false):rj.jE=false:=by
 cases x with
 | none=>simp at h
 | some a=>simp at h;subst h;exact hf a
theorem AR {h:Hints} {dst:Nat} {x:Operand} {rj:sW} (ht:zu X h dst x=some rj):rj.jE=false:=by
 unfold zu at ht
 split at ht
 ·injection ht with ht;subst ht;rfl
 ·split at ht
  ·exact sO ht fun _=>rfl
  ·exact sO ht fun _=>rfl
theorem Gy {h:Hints} {dst:Nat} {op:Op} {rj:sW} (hn: ∀c,op≠ .call c) (aJ:AJ X h dst op=some rj):rj.jE=false:=by
 unfold AJ at aJ
 split at aJ
 all_goals try exact absurd rfl (hn _)
 all_goals
  repeat' split at aJ
  all_goals first
   | (injection aJ with aJ;subst aJ;rfl)
   | (injection aJ with aJ;subst aJ;split<;>rfl)
   | exact sO aJ fun _=>rfl
   | exact DM aJ
   | exact AR aJ
   | (exfalso;simp at aJ;done)
theorem IS (rf: ∀t1 t2 k,X.pP t1=some k→X.pP t2=some k→t1=t2) (hC: ∀f F aD res,X.fo F=some f→C f aD=some res→bG X.toTrEnv F aD res) (hM: ∀f F h,E.Cs f=some h→X.fo F=some f→vM X.toTrEnv F h):qe X E C:=by
 intro h dst o rj a T μ v σ' hr aJ ah
 cases hc:rj.jE with
 | true=>
   cases eA:o.op with
   | call c=>
     rw[eA] at aJ
     simp only[AJ] at aJ
     exact Qz hC hM hr eA aJ hc ah
   | _=>
     have:=Gy (by rw[eA];simp) aJ
     rw[this] at hc;simp at hc
 | false=>
   obtain⟨hT,val,w',φ',Gz,h1,h2,h3⟩:=Qj rf hr aJ hc ah
   refine⟨hT,fun next Q hn=> ?_⟩
   unfold Oper.wp
   rcases Gz with Gz| ⟨Gz,rfl⟩
   ·rw[Gz];exact hn _ _ _ h1 h2 h3
   ·rw[Gz];exact hn _ _ _ h1 h2 h3
end
end Go.AM
namespace Go.AM
open Go Go.RowKit
theorem oF: ∀l:List V,V.erases l=l.map V.erase
 | []=>rfl
 | v::vs=>by simp only[V.erases,List.map_cons,oF vs]
theorem dN (l:List V): (V.erases l).length=l.length:=by rw[oF];simp
theorem uI (v:V):v.erase.aR=v.aR:=by cases v<;>rfl
theorem GA (v:V):v.erase.isAgg=v.isAgg:=by cases v<;>rfl
theorem lT (v:V):v.erase.da=v.da:=by unfold V.da;rw[GA,uI]
theorem GB (v:V):v.erase.cells=V.erases v.cells:=by cases v<;>rfl
theorem AS (v:V) (sz:Nat):aU v.erase sz=aU v sz:=by unfold aU;rw[GB,dN,lT]
theorem lU {p:V→Bool} (hp: ∀v,p v.erase=p v): ∀l:List V,(V.erases l).all p=l.all p
 | []=>rfl
 | v::vs=>by simp only[V.erases,agj,hp,lU hp vs]
mutual
theorem fu: ∀v:V,v.erase.au=v.au
 | .agg cs=>by simp only[V.erase,V.au];exact cD cs
 | .tuple cs=>by simp only[V.erase,V.au];exact cD cs
 | .mlit es=>by simp only[V.erase,V.au];exact cD es
 | .fn f cs=>by simp only[V.erase,V.au];exact cD cs
 | .bfn f cs=>by simp only[V.erase,V.au];exact cD cs
 | .iface t v=>by simp only[V.erase,V.au];exact fu v
 | .litk .. | .epk .. | .lit .. | .own .. | .eptr .. | .msl .. | .mptr .. | .bool _| .int .. | .float _| .str _| .nilp| .nilfn| .nili| .nils| .sl .. | .ptr .. | .mp .. | .it .. | .any=>rfl
theorem cD: ∀l:List V,V.ak (V.erases l)=V.ak l
 | []=>rfl
 | v::vs=>by simp only[V.erases,V.ak,fu v,cD vs]
end
theorem mW (es:List V) (off len:Nat):aF (V.erases es) off len=V.erases (aF es off len):=by
 simp only[aF,oF,ahM,List.map_drop]
section
variable {X X':Ctx} {μ μ':Mu}
mutual
theorem aj.erase (hX:X'.toTrEnv=X.toTrEnv) (hw:μ'.w=μ.w) (hφ:μ'.φ=μ.φ) (hO: ∀r,(μ'.O r).gen=(μ.O r).gen∧(μ'.O r).sz=(μ.O r).sz) (ho: ∀b,Own X' μ' b→Own X μ b): ∀ {x:V} {v:Value},aj X μ x v→aj X' μ' x.erase v
 | .bool _,_,h| .int ..,_,h| .float _,_,h| .str _,_,h| .nilp,_,h| .nilfn,_,h| .nili,_,h| .nils,_,h=>by simpa [V.erase,aj] using h
 | .any,_,_=>by simp[V.erase,aj]
 | .own ..,_,h| .msl ..,_,h| .mptr ..,_,h=>by simp[aj] at h
 | .agg cs,_,h=>by
   simp only[V.erase,aj] at h ⊢
   obtain⟨h1,vs,rfl,h2⟩:=h
   exact⟨by rw[lU uI];exact h1,vs,rfl,ag.erase hX hw hφ hO ho h2⟩
 | .tuple cs,_,h=>by
   simp only[V.erase,aj] at h ⊢
   obtain⟨vs,rfl,h2⟩:=h
   exact⟨vs,rfl,ag.erase hX hw hφ hO ho h2⟩
 | .bfn f cs,_,h=>by
   simp only[V.erase,aj] at h ⊢
   obtain⟨F,cv,rfl,h1,h2⟩:=h
   exact⟨F,cv,rfl,by rw[hX];exact h1,ag.erase hX hw hφ hO ho h2⟩
 | .fn f cs,_,h=>by
   simp only[V.erase,aj] at h ⊢
   obtain⟨F,cv,rfl,h1,h2⟩:=h
   exact⟨F,cv,rfl,by rw[hX];exact h1,ag.erase hX hw hφ hO ho h2⟩
 | .iface t x,_,h=>by
   simp only[V.erase,aj] at h ⊢
   obtain⟨F,y,rfl,h1,h2⟩:=h
   exact⟨F,y,rfl,by rw[hX];exact h1,aj.erase hX hw hφ hO ho h2⟩
 | .lit sz xs,_,h=>by
   simp only[V.erase,aj] at h ⊢
   obtain⟨h0,jx,a,cap,vs,rfl,h1,h2,h3⟩:=h
   refine⟨by rw[cD];exact h0,by rw[lU lT];exact jx,a,cap,vs,by rw[dN],by rw[dN];exact h1,ag.erase hX hw hφ hO ho h2,h3.imp (fun h=>by rw[h];rfl) ?_⟩
   rintro⟨b,o,rfl,hb,hs,hr⟩
   exact⟨b,o,rfl,fun hh=>hb (ho b hh),by rw[hw];exact hs,by rw[hw];exact hr⟩
 | .litk sz xs,_,h=>by
   simp only[V.erase,aj] at h ⊢
   obtain⟨h0,jx,a,cap,vs,rfl,h1,h2,h3⟩:=h
   refine⟨by rw[cD];exact h0,by rw[lU lT];exact jx,a,cap,vs,by rw[dN],by rw[dN];exact h1,ag.erase hX hw hφ hO ho h2,h3.imp (fun h=>by rw[h];rfl) ?_⟩
   rintro⟨rfl,hb,hs,hr⟩
   exact⟨_,_,rfl,fun hh=>hb (ho _ hh),by rw[hw];exact hs,by rw[hw];exact hr⟩
 | .sl r g off len,_,h=>by
   simp only[V.erase,aj] at h ⊢
   rw[hφ,(hO r).1,(hO r).2];exact h
 | .ptr r g idx off,_,h=>by
   simp only[V.erase,aj] at h ⊢
   rw[hφ,(hO r).1,(hO r).2];exact h
 | .eptr e off,_,h=>by
   simp only[V.erase,aj] at h ⊢
   obtain⟨h0,jx,b,o,sz,x,rfl,hb,hs,h1,hr⟩:=h
   exact⟨by rw[fu];exact h0,by rw[lT];exact jx,b,o,sz,x,rfl,fun hh=>hb (ho b hh),by rw[hw];exact hs,aj.erase hX hw hφ hO ho h1,by rw[hw];exact hr⟩
 | .epk i sz e off,_,h=>by
   simp only[V.erase,aj] at h ⊢
   obtain⟨h0,jx,x,rfl,hb,hs,h1,hr⟩:=h
   exact⟨by rw[fu];exact h0,by rw[lT];exact jx,_,X.tok.2+i*sz,sz,x,rfl,fun hh=>hb (ho _ hh),by rw[hw];exact hs,aj.erase hX hw hφ hO ho h1,by rw[hw];exact hr⟩
 | .mp r g,_,h| .it r g,_,h=>by
   simp only[V.erase,aj] at h ⊢
   rw[hφ,(hO r).1,(hO r).2];exact h
 | .mlit es,_,h=>by
   simp only[V.erase,aj] at h ⊢
   obtain⟨h0,h⟩:=h
   refine⟨by rw[cD];exact h0,h.imp (fun h=> ⟨by rw[h.1];rfl,h.2⟩) ?_⟩
   rintro⟨a,ents,clock,rfl,hb,hs,h1,h2⟩
   exact⟨a,ents,clock,rfl,fun hh=>hb (ho a hh),by rw[hw];exact hs,by rw[hw];exact h1,ag.erase hX hw hφ hO ho h2⟩
theorem ag.erase (hX:X'.toTrEnv=X.toTrEnv) (hw:μ'.w=μ.w) (hφ:μ'.φ=μ.φ) (hO: ∀r,(μ'.O r).gen=(μ.O r).gen∧(μ'.O r).sz=(μ.O r).sz) (ho: ∀b,Own X' μ' b→Own X μ b): ∀ {xs:List V} {vs:List Value},ag X μ xs vs→ag X' μ' (V.erases xs) vs
 | [],[],_=>by simp[V.erases,ag]
 | [],_::_,h=>by simp[ag] at h
 | _::_,[],h=>by simp[ag] at h
 | x::xs,v::vs,h=>by
   simp only[V.erases,ag] at h ⊢
   exact⟨aj.erase hX hw hφ hO ho h.1,ag.erase hX hw hφ hO ho h.2⟩
end
end
def dJ (O:Nat→Obj):Nat→Obj:=fun r=> {O r with es:=(O r).es.map V.erases}
section
variable {X:TrEnv} {B:Nat→Prop} {K K':Nat×Nat} {w:World} {φ:Nat→Row} {O:Nat→Obj}
theorem oG {b:Nat}: (Mu.mk w φ (dJ O)).own b↔(Mu.mk w φ O).own b:=by
 simp only[Mu.own,dJ,Option.isSome_map]
theorem Ce {x:V} {v:Value} (h:aj ⟨X,B,K⟩ ⟨w,φ,O⟩ x v):aj ⟨X,B,K'⟩ ⟨w,φ,dJ O⟩ x.erase v:=
 aj.erase (X:=⟨X,B,K⟩) (X':=⟨X,B,K'⟩) (μ:=⟨w,φ,O⟩) (μ':=⟨w,φ,dJ O⟩) rfl rfl rfl (fun _=> ⟨rfl,rfl⟩) (fun b hb=>hb.imp oG.1 id) h
theorem sP {xs:List V} {vs:List Value} (h:ag ⟨X,B,K⟩ ⟨w,φ,O⟩ xs vs):ag ⟨X,B,K'⟩ ⟨w,φ,dJ O⟩ (V.erases xs) vs:=
 ag.erase (X:=⟨X,B,K⟩) (X':=⟨X,B,K'⟩) (μ:=⟨w,φ,O⟩) (μ':=⟨w,φ,dJ O⟩) rfl rfl rfl (fun _=> ⟨rfl,rfl⟩) (fun b hb=>hb.imp oG.1 id) h
theorem wX (h:ba ⟨X,B,K⟩ ⟨w,φ,O⟩):ba ⟨X,B,K'⟩ ⟨w,φ,dJ O⟩ where
 ok:=fun r es bo=>by
  simp only[dJ,afZ] at bo
  obtain⟨lX,QA,rfl⟩:=bo
  rcases h.ok r lX QA with⟨h1,h2,h3,h4⟩ | ⟨h1,h2,ob,h3,h4⟩
  ·refine .inl ⟨h1,by rw[dN];exact h2,by rw[lU (fun v=>AS v _)];exact h3,h4.imp id ?_⟩
   rintro⟨c,T,vs,k1,k2,k3,k4⟩
   exact⟨c,T,vs,k1,k2,sP k3,k4⟩
  ·refine .inr ⟨h1,h2,ob,h3,?_⟩
   rcases h4 with⟨ents,clock,k1,k2,k3⟩ | ⟨s,pos,k1,k2⟩ | ⟨mo,since,QY,k1,k2,k3⟩
   ·exact .inl ⟨ents,clock,k1,sP k2,k3⟩
   ·exact .inr (.inl ⟨s,pos,k1,by rw[k2];rfl⟩)
   ·refine .inr (.inr ⟨mo,since,V.erases QY,k1,by rw[k2];rfl,k3.imp (fun h=> ⟨h.1,by rw[h.2];rfl⟩) ?_⟩)
    rintro⟨m,ents,l1,l2,l3,l4,l5,l6⟩
    exact⟨m,ents,l1,fun hh=>l2 (hh.imp oG.1 id),l3,l4,l5,sP l6⟩
 inj:=fun r r' cF h1 h2 h3 h4=>h.inj r r' cF (by simpa [dJ] using h1) (by simpa [dJ] using h2) h3 h4
 sS:=fun r h1 h2=>h.sS r (by simpa [dJ] using h1) h2
 blt:=h.blt
theorem nJ {n:Nat} {T T':Nat→V} {c c':V} {rs:List Nat} (h:cz n ⟨T,O⟩ c=some (c',rs)):cz n ⟨T',dJ O⟩ c.erase=some (c'.erase,rs):=by
 have other: (∀r g off len,c≠ .sl r g off len)→c.au=true→c'=c∧rs=[]→cz n ⟨T',dJ O⟩ c.erase=some (c'.erase,rs):=by
  rintro hns hp ⟨rfl,rfl⟩
  have Dg:c'.erase.au=true:=by rw[fu];exact hp
  cases c'<;>first| exact absurd rfl (hns _ _ _ _) | (simp only[V.erase] at Dg ⊢;simp only[cz,Dg,if_true])
 unfold cz at h
 split at h
 ·rename_i r g off len
  simp only[V.erase,cz]
  split at h
  ·rename_i es bo
   have fm: (dJ O r).es=some (V.erases es):=by
    have: (O r).es=some es:=bo
    simp only[dJ,this,agc]
   simp only[fm]
   split at h
   ·rename_i hc
    have Co: (dJ O r).gen=g∧off+len≤(V.erases es).length∧(dJ O r).arr=true∧V.ak (aF (V.erases es) off len)=true:=
     ⟨hc.1,by rw[dN];exact hc.2.1,hc.2.2.1,by rw[mW,cD];exact hc.2.2.2⟩
    rw[if_pos Co]
    split at h
    ·rename_i hr
     rw[if_pos hr]
     simp only[afY,af4] at h
     obtain⟨rfl,rfl⟩:=h;rfl
    ·rename_i hr
     rw[if_neg hr]
     split at h
     ·rename_i hf
      rw[if_pos (show (dJ O r).fz=true from hf)]
      simp only[afY,af4] at h
      obtain⟨rfl,rfl⟩:=h
      simp only[V.erase,mW]
      rfl
     ·rename_i hf
      rw[if_neg (show ¬ (dJ O r).fz=true from hf)]
      simp only[afY,af4] at h
      obtain⟨rfl,rfl⟩:=h
      simp only[V.erase,mW]
      rfl
   ·simp at h
  ·simp at h
 ·rename_i hns
  split at h
  ·rename_i hp
   simp only[afY,af4] at h
   obtain⟨rfl,rfl⟩:=h
   exact other (fun r g off len e=>hns r g off len e) hp ⟨rfl,rfl⟩
  ·simp at h
theorem jh {n:Nat} {T T':Nat→V}: ∀ {cs cP:List V} {rs:List Nat},cg n ⟨T,O⟩ cs=some (cP,rs)→cg n ⟨T',dJ O⟩ (V.erases cs)=some (V.erases cP,rs)
 | [],cP,rs,h=>by
   simp only[cg,afY,af4] at h
   obtain⟨rfl,rfl⟩:=h;rfl
 | c::cs,cP,rs,h=>by
   simp only[cg] at h
   split at h
   ·rename_i c1 r1 XS WM h1 h2
    simp only[afY,af4] at h
    obtain⟨rfl,rfl⟩:=h
    simp only[V.erases,cg,nJ (T':=T') h1,jh h2]
   ·simp at h
theorem rT {n:Nat} {T T':Nat→V} {v v':V} {rs:List Nat} (h:dH n ⟨T,O⟩ v=some (v',rs)):dH n ⟨T',dJ O⟩ v.erase=some (v'.erase,rs):=by
 unfold dH at h
 split at h
 ·rename_i hp
  simp only[afY,af4] at h
  obtain⟨rfl,rfl⟩:=h
  simp only[dH,fu,hp,if_true]
 ·rename_i hp
  have Dg: ¬v.erase.au=true:=by rw[fu];exact hp
  unfold dH
  rw[if_neg Dg]
  split at h
  ·rename_i cs
   split at h
   ·rename_i XS WM h1
    simp only[afY,af4] at h
    obtain⟨rfl,rfl⟩:=h
    simp only[V.erase,jh (T':=T') h1]
   ·simp at h
  ·rename_i f cs
   split at h
   ·rename_i XS WM h1
    split at h
    ·rename_i hc
     simp only[afY,af4] at h
     obtain⟨rfl,rfl⟩:=h
     simp only[V.erase,jh (T':=T') h1,cD,hc,if_true]
    ·simp at h
   ·simp at h
  ·rename_i h1 h2
   have:=nJ (T':=T') h
   cases v<;>first| exact absurd rfl (h1 _) | exact absurd rfl (h2 _ _) | exact this
theorem ql {n:Nat} {T T':Nat→V}: ∀ {cs cP:List V} {rs:List Nat},dp n ⟨T,O⟩ cs=some (cP,rs)→dp n ⟨T',dJ O⟩ (V.erases cs)=some (V.erases cP,rs)
 | [],cP,rs,h=>by
   simp only[dp,afY,af4] at h
   obtain⟨rfl,rfl⟩:=h;rfl
 | c::cs,cP,rs,h=>by
   simp only[dp] at h
   split at h
   ·rename_i c1 r1 XS WM h1 h2
    simp only[afY,af4] at h
    obtain⟨rfl,rfl⟩:=h
    simp only[V.erases,dp,rT (T':=T') h1,ql h2]
   ·simp at h
theorem dv.erase {n:Nat} {T T':Nat→V} {v0 v:V} {rs:List Nat} (h:dv n ⟨T,O⟩ v0 v rs):dv n ⟨T',dJ O⟩ v0.erase v.erase rs:=by
 cases h with
 | one h=>exact .one (rT h)
 | many h=>simp only[V.erase];exact .many (ql h)
end
theorem IT {v:V} (h:v.au=true): (yy v).au=true:=by
 unfold yy;split
 ·rfl
 ·exact h
theorem uJ (v:V): (yy v).aR=v.aR:=by
 unfold yy;split<;>rfl
section
variable {X:TrEnv} {B:Nat→Prop} {K:Nat×Nat} {μ:Mu}
theorem Mi (c:Nat) {x:V} {v:Value} (hx: ∀K,aj ⟨X,B,K⟩ μ x v): ∃K,aj ⟨X,B,K⟩ μ (En c x) v:=by
 unfold En
 split
 ·rename_i cs
  by_cases hc: ∃sz xs,cs[c]? =some (.lit sz xs)∧xs≠[]
  ·obtain⟨sz,xs,nM,cF⟩:=hc
   obtain⟨h1,vs,rfl,h2⟩:cs.all V.aR=true∧ ∃vs,v= .agg vs∧ag ⟨X,B,(0,0)⟩ μ cs vs.toList:=by have:=hx (0,0);simpa only[aj] using this
   obtain⟨u,hu,bl⟩:=h2.get nM
   simp only[aj] at bl
   obtain⟨k0,XT,a,cap,us,rfl,k1,k2,k3⟩:=bl
   obtain⟨b,o,rfl,k4,k5,k6⟩:=k3.resolve_left cF
   refine⟨(b,o),?_⟩
   have KR:ag ⟨X,B,(b,o)⟩ μ cs vs.toList:=by
    have:=hx (b,o)
    simp only[aj] at this
    obtain⟨_,vs',e,h⟩:=this
    injection e with e;subst e;exact h
   simp only[aj]
   refine⟨?_,vs,rfl,?_⟩
   ·rw[af5] at h1 ⊢
    intro y hy
    obtain⟨i,hi⟩:=agt.1 hy
    rw[agu,ahg,afZ] at hi
    obtain⟨z,hz,rfl⟩:=hi
    have Rm:=h1 z (List.mem_of_getElem? hz)
    split
    ·rw[uJ];exact Rm
    ·exact Rm
   ·refine ag.zy (by rw[List.length_modify];exact KR.length) fun i y u' hy Bl=> ?_
    rw[agu,ahg,afZ] at hy
    obtain⟨z,hz,rfl⟩:=hy
    obtain⟨u2,Tx,oV⟩:=KR.get hz
    rw[Bl] at Tx;injection Tx with Tx;subst Tx
    by_cases Uw:c=i
    ·subst Uw
     rw[if_pos rfl]
     rw[nM] at hz;injection hz with hz;subst hz
     rw[hu] at Bl;injection Bl with Bl;subst Bl
     simp only[yy,aj]
     simp only[aj] at oV
     obtain⟨_,_,a',LP,Rh,e,_,m2,m3⟩:=oV
     injection e with e1 e2 e3
     subst e1;subst e3
     refine⟨k0,XT,_,cap,Rh,rfl,k1,m2,.inr ⟨rfl,k4,k5,?_⟩⟩
     rcases m3 with m3| ⟨b',o',e,_,_,m⟩
     ·exact absurd m3 cF
     ·simp only[afY,Addr.mk.injEq,and_true] at e
      obtain⟨rfl,rfl⟩:=e
      exact m
    ·rw[if_neg Uw];exact oV
  ·refine⟨(0,0),?_⟩
   have h0:=hx (0,0)
   simp only[aj] at h0 ⊢
   obtain⟨h1,vs,rfl,h2⟩:=h0
   refine⟨?_,vs,rfl,?_⟩
   ·rw[af5] at h1 ⊢
    intro y hy
    obtain⟨i,hi⟩:=agt.1 hy
    rw[agu,ahg,afZ] at hi
    obtain⟨z,hz,rfl⟩:=hi
    have Rm:=h1 z (List.mem_of_getElem? hz)
    split
    ·rw[uJ];exact Rm
    ·exact Rm
   ·refine ag.zy (by rw[List.length_modify];exact h2.length) fun i y u' hy Bl=> ?_
    rw[agu,ahg,afZ] at hy
    obtain⟨z,hz,rfl⟩:=hy
    obtain⟨u2,Tx,oV⟩:=h2.get hz
    rw[Bl] at Tx;injection Tx with Tx;subst Tx
    by_cases Uw:c=i
    ·subst Uw
     rw[if_pos rfl]
     unfold yy
     split
     ·rename_i sz xs
      have I8:xs=[]:=ahQ fun cF=>hc ⟨sz,xs,hz,cF⟩
      subst I8
      simp only[aj] at oV ⊢
      obtain⟨k0,XT,a,cap,us,rfl,k1,k2,_⟩:=oV
      exact⟨k0,XT,a,cap,us,rfl,k1,k2,.inl trivial⟩
     ·exact oV
    ·rw[if_neg Uw];exact oV
 ·exact⟨(0,0),hx (0,0)⟩
theorem iv (p:Nat×Nat) (args:List V): (cC p args).length=args.length:=by simp[cC,dN]
theorem AT {p:Nat×Nat} {args:List V} (h:V.ak args=true):V.ak (cC p args)=true:=by
 refine rW fun x hx=> ?_
 obtain⟨i,hi⟩:=agt.1 hx
 have he:V.ak (V.erases args)=true:=by rw[cD];exact h
 rw[cC,agu,ahg,afZ] at hi
 obtain⟨z,hz,rfl⟩:=hi
 have Rm:=jI he (List.mem_of_getElem? hz)
 split
 ·unfold En
  split
  ·rename_i cs
   simp only[V.au] at Rm ⊢
   refine rW fun y hy=> ?_
   obtain⟨j,hj⟩:=agt.1 hy
   rw[agu,ahg,afZ] at hj
   obtain⟨u,hu,rfl⟩:=hj
   have Bl:=jI Rm (List.mem_of_getElem? hu)
   split
   ·exact IT Bl
   ·exact Bl
  ·exact Rm
 ·exact Rm
theorem Cf {F:FuncId} {p:Nat×Nat} {args:List V} {res:eL} (hp:V.ak args=true) (h:bG X F (cC p args) res):bG X F args ⟨res.val.erase,[]⟩:=by
 intro B K w φ0 vals BN hv ho
 have hpm:=AT (p:=p) hp
 have hO: (enter args).O=fun _=>bE:=by rw[dT hp]
 have hOm: (enter (cC p args)).O=fun _=>bE:=by rw[dT hpm]
 have hT: ∀t a,args[t]? =some a→(enter args).T t=a:=fun t a ha=>by rw[dT hp];simp[List.getD,ha]
 have hTm: ∀t a,(cC p args)[t]? =some a→(enter (cC p args)).T t=a:=fun t a ha=>by rw[dT hpm];simp[List.getD,ha]
 have each: ∀K' t (x:V) v,(V.erases args)[t]? =some x→vals[t]? =some v→aj ⟨X,B,K'⟩ ⟨w,φ0,fun _=>bE⟩ x v:=fun K' t x v hx xS=>by
  rw[oF,age,afZ] at hx
  obtain⟨y,hy,rfl⟩:=hx
  have:=hv t v xS
  rw[hT t y hy,hO] at this
  have:=Ce (K':=K') this
  exact this
 obtain⟨K',hK⟩: ∃K',∀x v,(V.erases args)[p.1]? =some x→vals[p.1]? =some v→aj ⟨X,B,K'⟩ ⟨w,φ0,fun _=>bE⟩ (En p.2 x) v:=by
  cases hx: (V.erases args)[p.1]? with
  | none=>exact⟨(0,0),fun x v h1=>by simp at h1⟩
  | some x=>
    cases hu:vals[p.1]? with
    | none=>exact⟨(0,0),fun x v _ h1=>by simp at h1⟩
    | some u=>
      obtain⟨K',hK⟩:=Mi (X:=X) (B:=B) (μ:=⟨w,φ0,fun _=>bE⟩) p.2 (fun K'=>each K' p.1 x u hx hu)
      exact⟨K',fun y v h1 h2=>by injection h1 with h1;injection h2 with h2;subst h1;subst h2;exact hK⟩
 have hU:=h B K' w φ0 vals (by rw[iv];exact BN) (fun t v xS=>by
  rw[hOm]
  have bk:t< (cC p args).length:=by rw[iv,←BN];exact(af0.1 xS).1
  obtain⟨y,eF⟩: ∃y,(cC p args)[t]? =some y:=⟨_,af3 bk⟩
  rw[hTm t _ eF]
  have HF:=eF
  simp only[cC] at HF
  rw[agu,ahg,afZ] at HF
  obtain⟨z,hz,Am⟩:=HF
  rw[←Am]
  split
  · rename_i e
    subst e
    exact hK z v hz xS
  ·exact each K' t z v hz xS) (by
  rw[hOm]
  rw[hO] at ho
  have:=wX (K':=K') ho
  exact this)
 rw[hOm] at hU
 rw[hO]
 have post: ∀val w',(∃φ' T' O' v0 refs,Le ⟨w,φ0,fun _=>bE⟩ ⟨w',φ',O'⟩∧ba ⟨X,B,K'⟩ ⟨w',φ',O'⟩∧
    aj ⟨X,B,K'⟩ ⟨w',φ',O'⟩ v0 val∧dv (cC p args).length ⟨T',O'⟩ v0 res.val refs∧distinct refs=true∧cI O' 0 (cC p args)=some res.outs)→
    ∃φ' T' O' v0 refs,Le ⟨w,φ0,fun _=>bE⟩ ⟨w',φ',O'⟩∧ba ⟨X,B,K⟩ ⟨w',φ',O'⟩∧
    aj ⟨X,B,K⟩ ⟨w',φ',O'⟩ v0 val∧dv args.length ⟨T',O'⟩ v0 (eL.mk res.val.erase []).val refs∧distinct refs=true∧cI O' 0 args=some (eL.mk res.val.erase []).outs:=by
  rintro val w' ⟨φ',T',O',v0,refs,k1,k2,k3,k4,k5,k6⟩
  rw[iv] at k4
  refine⟨φ',T',dJ O',v0.erase,refs,?_,wX k2,Ce k3,k4.erase,k5,jS hp⟩
  exact⟨k1.size,fun b hb hn=> ⟨(k1.bS b hb hn).1,fun h'=> (k1.bS b hb hn).2 (oG.1 h')⟩,k1.gen,k1.row,k1.os,k1.output,k1.tape,k1.frozen⟩
 unfold sC at hU ⊢
 split at hU
 ·exact post _ _ hU
 ·refine Calls.mono hU fun e w' he=> ?_
  cases e with
  | returned v=>exact post _ _ he
  | panicked c=>exact he.elim
  | outgrown=>exact he.elim
 ·exact hU.elim
end
end Go.AM
namespace Go.AM
open Go Go.RowKit
structure vN (X:TrEnv) (E:Env):Prop where
 inj: ∀t1 t2 k,X.pP t1=some k→X.pP t2=some k→t1=t2
 mixed:X.P.follows .mixedOrders=true
 fn: ∀f af F,E.fn f=some af→X.fo F=some f→ ∃fn h c,X.P.funcs[F]? =some fn∧(fn.name== "runtime.NumGoroutine")=false∧fn.body=some c∧CA X h fn=some af∧af.nparams≤fn.ntmps
 ext: ∀f aD res F,E.ext f aD=some res→X.fo F=some f→bG X F aD res
 iter: ∀g F caps xs,E.iter g caps=some xs→X.fo F=some g→ ∀ (B:Nat→Prop) (K:Nat×Nat) (μ:Mu) (lb:Array Value),ag ⟨X,B,K⟩ μ caps lb.toList→ba ⟨X,B,K⟩ μ→xX ⟨X,B,K⟩ μ F lb xs
 Cs: ∀f F h,E.Cs f=some h→X.fo F=some f→vM X F h
 hyb: ∀f h F,E.hyb f=some h→X.fo F=some f→ ∀C:bn,(∀f F aD res,X.fo F=some f→C f aD=some res→bG X F aD res)→ ∀aD res,h C aD=some res→bG X F aD res
section
variable {X:Ctx} {T:Nat→V} {a:Go.Act} {μ:Mu}
theorem DN (hr:Rel X T a μ) {r:ResultVar} {r':sU} (aJ:uo X r=some r') {v:V} (h:lr ⟨T,μ.O⟩ r'=some v):
   ∃val,((match r with| .tmp t=>pure (a.tmps.getD t undef) | .cell c t=>do loadVar t (←asAddr (a.tmps.getD c undef)):Sem Value)).run X.P μ.w= .ok val μ.w∧aj X μ v val:=by
 cases r with
 | tmp t=>
   simp[uo] at aJ;subst aJ
   simp only[lr,afY] at h;subst h
   exact⟨_,rfl,hr.tmps t⟩
 | cell c t=>
   simp only[uo] at aJ
   split at aJ
   ·rename_i g sz hg hn
    injection aJ with aJ;subst aJ
    simp only[lr] at h
    split at h
    ·rename_i r gn idx off e
     split at h
     ·rename_i es bo
      split at h
      ·rename_i cE
       split at h
       ·rename_i el rB
        have hx:=hr.tmps c
        rw[e] at hx
        simp only[aj] at hx
        obtain⟨p,Uu,_,bT⟩:=hx
        obtain⟨Gv,bT⟩:=bT cE
        obtain⟨xv,re,_,jZ⟩:=F7 hr.a8 bo rB Gv
        obtain⟨val,hl,bl⟩:=qR re h hg hn jZ
        refine⟨val,?_,bl⟩
        rw[bT] at Uu
        show (do loadVar t (←asAddr (a.tmps.getD c undef)):Sem Value).run X.P μ.w=_
        rw[Uu]
        simpa [Sem.run_bind,asAddr,Sem.run] using hl
       ·simp at h
      ·simp at h
     ·simp at h
    ·simp at h
   ·simp at aJ
theorem uK (hr:Rel X T a μ): ∀ {rs:List ResultVar} {rs':List sU} {vs:List V},jA X rs=some rs'→ek ⟨T,μ.O⟩ rs'=some vs→
   ∃vals,(rs.mapM (fun r=> (match r with| .tmp t=>pure (a.tmps.getD t undef) | .cell c t=>do loadVar t (←asAddr (a.tmps.getD c undef)):Sem Value))).run X.P μ.w= .ok vals μ.w∧ag X μ vs vals
 | [],rs',vs,h1,h2=>by
   simp[jA] at h1;subst h1
   simp[ek] at h2;subst h2
   exact⟨[],by simp[Sem.run],by simp[ag]⟩
 | r::rs,rs',vs,h1,h2=>by
   simp only[jA] at h1
   split at h1
   ·rename_i r1 WM k1 k2
    injection h1 with h1;subst h1
    simp only[ek] at h2
    split at h2
    ·rename_i v vs1 m1 m2
     injection h2 with h2;subst h2
     obtain⟨val,n1,n2⟩:=DN hr k1 m1
     obtain⟨vals,p1,p2⟩:=uK hr k2 m2
     refine⟨val::vals,?_,by simp only[ag];exact⟨n2,p2⟩⟩
     simp only[List.mapM_cons,Sem.run_bind,n1,Result.andThen,p1]
     rfl
    ·simp at h2
   ·simp at h1
theorem rG (hr:Rel X T a μ) {fn:Func} {rs':List sU} {vs:List V} (h1:jA X fn.results.toList=some rs') (h2:ek ⟨T,μ.O⟩ rs'=some vs):
  ∃vals,(results fn a.tmps).run X.P μ.w= .ok (match vals with| [v]=>v| vs=> .tuple vs.toArray) μ.w∧ag X μ vs vals:=by
 obtain⟨vals,k1,k2⟩:=uK hr h1 h2
 refine⟨vals,?_,k2⟩
 have hm: (fn.results.mapM (fun r=> (match r with| .tmp t=>pure (a.tmps.getD t undef) | .cell c t=>do loadVar t (←asAddr (a.tmps.getD c undef)):Sem Value))).run X.P μ.w= .ok vals.toArray μ.w:=by
  rw[Array.mapM_eq_mapM_toList]
  show Sem.run X.P (_ >>=fun l=>pure (List.toArray l)) _=_
  rw[Sem.run_bind,k1]
  rfl
 unfold results
 rw[Sem.run_bind]
 refine(congrArg (fun r=>Result.andThen r (fun vs w'=>Sem.run X.P (pure (if h:vs.size=1 then vs[0] else Value.tuple vs)) w')) hm).trans ?_
 match vals with
 | []=>rfl
 | [v]=>rfl
 | _::_::_=>rfl
end
section
variable {X:TrEnv} {E:Env}
theorem Mj {af:aM} {args:List V} {σ:St} {res:eL} (h:leave af args σ=some res):
  ∃vs,ek σ af.results=some vs∧cI σ.O 0 args=some res.outs∧ ∃refs,distinct refs=true∧
   ∀v0,v0=(match vs with| [v]=>v| vs=> .tuple vs)→dv args.length σ v0 res.val refs:=by
 unfold leave at h
 split at h
 ·rename_i vs outs h1 h2
  refine⟨vs,h1,?_⟩
  split at h
  ·rename_i v rs hx
   split at h
   ·rename_i hd
    injection h with h;subst h
    refine⟨h2,rs,hd,?_⟩
    rintro v0 rfl
    match vs,hx with
    | [u],hx=>
      simp only[dp] at hx
      split at hx
      · rename_i c' r cP rs' k1 k2
        simp only[afY,af4,ahK] at hx k2
        obtain⟨⟨rfl,rfl⟩,rfl⟩:=hx
        obtain⟨_,rfl⟩:=k2
        simpa using dv.one k1
      ·simp at hx
    | [],hx=>simp[dp] at hx
    | _::_::_,hx=>
      simp only[dp] at hx
      split at hx
      · rename_i k1 k2
        split at k2
        ·simp only[afY,af4] at hx k2
         obtain⟨e1,_⟩:=k2
         subst e1
         simp at hx
        ·simp at k2
      ·simp at hx
   ·simp at h
  ·rename_i vs' rs hns hx
   split at h
   ·rename_i hd
    injection h with h;subst h
    refine⟨h2,rs,hd,?_⟩
    rintro v0 rfl
    match vs,hx with
    | [u],hx=>
      exfalso
      simp only[dp] at hx
      split at hx
      · rename_i c' r cP rs' k1 k2
        simp only[afY,af4] at hx k2
        obtain⟨rfl,rfl⟩:=hx
        obtain⟨rfl,_⟩:=k2
        exact hns _ rfl
      ·simp at hx
    | [],hx=>exact .many hx
    | _::_::_,hx=>exact .many hx
   ·simp at h
  ·simp at h
 ·simp at h
theorem pQ {P:Program} {fn:Func} {tmps:Array Value} {R:Ending→World→Prop} {n:Fp} (Pw:World→Prop) (mq: ∀w D,n.fl≤D→w.heap[D]? =some (.deferred (some []))→Pw w→Pw (w.putObj D (.deferred none)))
   (hR: ∀w,Pw w→ ∃v,(results fn tmps).run P w= .ok v w∧R (.returned v) w) {ds:List Deferred} {w:World} (hm:Marks n w ds) (hw:Pw w):LeavesInM (Fr none) 0 P fn tmps R ds .returning w:=by
 obtain⟨_,Ds,rfl,Rj,hDs⟩:=hm
 revert w
 induction Ds with
 | nil=>intro w hw _ _;exact hR w hw
 | cons D Ds ih=>
   intro w hw hf hm
   obtain⟨h1,h2⟩:=hm D afU
   rw[ahJ] at Rj
   refine⟨afU,.inl ⟨D,w.putObj D (.deferred none),rfl,run_takeDeferred h2,?_⟩⟩
   refine ih Rj.2 (mq w D h1 h2 hw) ⟨by simpa [World.putObj] using hf.1,fun l hl=> ?_⟩ fun D' hD'=> ⟨(hm D' (by simp[hD'])).1,?_⟩
   ·obtain⟨L,k⟩:=hf.2 l hl
    exact⟨L,(World.putObj_heap_other (fun e=>by rw[e,h2] at k;simp at k)).trans k⟩
   ·rw[World.putObj_heap_other (fun e=>Rj.1 (by rw[←e];exact hD'))]
    exact(hm D' (by simp[hD'])).2
theorem oH (hE:vN X E) {n:Nat} (hH: ∀m,m<n→ ∀ (B:Nat→Prop) (K:Nat×Nat),qe ⟨X,B,K⟩ E (dm E (exec E m))) {f:Nat} {af:aM} {F:FuncId} (hf:E.fn f=some af) (hF:X.fo F=some f)
  {args:List V} {res:eL} {e:aP} {σ:St} (hlen:args.length=af.nparams) (hx:exec E n af.body (enter args)=some (e,σ)) (he:e= .normal∨e= .ret) (hl:leave af args σ=some res):bG X F args res:=by
 obtain⟨fn,h,c,mc,gQ,fS,aJ,hle⟩:=hE.fn f af F hf hF
 intro B K w φ0 vals BN hv ho
 have WR: (callFunc F vals.toArray).run X.P w= .ok (.enter F vals.toArray) w:=by
  have WT: (fn.name== "runtime.NumGoroutine")=false:=gQ
  simp[callFunc,Sem.run_bind,program,Sem.run,mc,WT,fS]
  simpa using gQ
 rw[WR]
 unfold CA at aJ
 rw[fS] at aJ
 simp only at aJ
 split at aJ
 ·rename_i ac rs hc RT
  injection aJ with aJ
  subst aJ
  simp only[sC]
  refine(callsIn_wide (n:=0)).1 (callsIn_of_wp_marks (F:=Fr none) mc fS trivial ?_ rfl)
  have bF:vals.toArray.size≤fn.ntmps:=by simp[BN,hlen];exact hle
  have j4:jy ⟨X,B,K⟩ ⟨w,φ0,(enter args).O⟩ ⟨fn.ntmps,w.heap.size,none⟩ (enter args) {tmps:=vals.toArray++Array.replicate (fn.ntmps - vals.toArray.size) undef,defers:=[]} w:=by
   refine⟨Marks.nil (af6 _) afU,by simp at bF ⊢;omega,φ0,⟨fun t=> ?_,ho⟩,Le.refl _⟩
   by_cases ht:t<vals.length
   ·have e1: (vals.toArray++Array.replicate (fn.ntmps - vals.toArray.size) undef).getD t undef=vals[t]:=by
     simp[ag7,ht]
    rw[e1]
    exact hv t _ (af3 ht)
   ·have e1: (vals.toArray++Array.replicate (fn.ntmps - vals.toArray.size) undef).getD t undef=undef:=by
     simp[ag7,ht,ahu]
     split<;>rfl
    have e2: (enter args).T t=dE:=by
     have:args[t]? =none:=agZ ae0
     simp[enter,this]
    rw[e1,e2]
    exact qN
  refine wpIn_mono (lI (X:=⟨X,B,K⟩) hE.mixed (fun g F caps xs h1 h2 μ lb h3 h4=>hE.iter g F caps xs h1 h2 B K μ lb h3 h4) (h:={h with n:=fn.ntmps}) n (fun m hm=>hH m hm B K) rfl c ac _ _ e _ w hc hx j4) fun ex a' w' hq=> ?_
  obtain⟨rfl,j3,_,φ',hr,pR⟩:=hq
  obtain⟨vs,l1,l2,refs,l3,l4⟩:=Mj hl
  have fin:LeavesInM (Fr none) 0 X.P fn a'.tmps (fun
    | .returned val,w'=> ∃φ' T' O' v0 refs,Le ⟨w,φ0,(enter args).O⟩ ⟨w',φ',O'⟩∧ba ⟨X,B,K⟩ ⟨w',φ',O'⟩∧aj ⟨X,B,K⟩ ⟨w',φ',O'⟩ v0 val∧dv args.length ⟨T',O'⟩ v0 res.val refs∧distinct refs=true∧cI O' 0 args=some res.outs
    | _,_=>False) a'.defers .returning w':=by
   refine pQ (fun w'=>Rel ⟨X,B,K⟩ σ.T a' ⟨w',φ',σ.O⟩∧Le ⟨w,φ0,(enter args).O⟩ ⟨w',φ',σ.O⟩) (fun w1 D h1 h2 ⟨hr,hle⟩=> ⟨⟨fun t=>aj.ck (iA (μ:=⟨w1,φ',σ.O⟩) h2 rfl rfl) (hr.tmps t),vA hr.a8 h2⟩,Dm hle h1⟩) (fun w' ⟨hr,pR⟩=> ?_) j3 ⟨hr,pR⟩
   obtain⟨PR,r1,r2⟩:=rG hr RT l1
   refine⟨_,r1,φ',σ.T,σ.O,_,refs,pR,hr.a8,?_,l4 _ rfl,l3,l2⟩
   match vs,PR,r2 with
   | [],[],r2=>simp only[aj];exact⟨_,rfl,by simpa using r2⟩
   | [v],[u],r2=>simp only[ag] at r2;exact r2.1
   | _::_::_,_::_::_,r2=>simp only[aj];exact⟨_,rfl,by simpa using r2⟩
   | [],_::_,r2=>simp[ag] at r2
   | _::_,[],r2=>simp[ag] at r2
   | [_],_::_::_,r2=>simp[ag] at r2
   | _::_::_,[_],r2=>simp[ag] at r2
  rcases he with rfl| rfl
  ·exact fin
  ·exact fin
 ·simp at aJ
theorem zZ (   hE:vN X E): ∀ (n:Nat) (f:Nat) (F:FuncId) (args:List V) (res:eL),X.fo F=some f→call E n f args=some res→bG X F args res:=by
 intro n
 induction n using Nat.strongRecOn with
 | _ n ih=>
   have low: ∀ (f:Nat) (F:FuncId) (args:List V) (res:eL),X.fo F=some f→eZ E (exec E n) f args=some res→bG X F args res:= ?low
   ·intro f F args res hF h
    unfold call dm at h
    split at h
    ·rename_i g hg
     exact hE.hyb f g F hg hF _ low args res h
    ·exact low f F args res hF h
   intro f F args res hF h
   unfold eZ at h
   split at h
   ·rename_i r he
    injection h with h;subst h
    exact hE.ext f args r F he hF
   ·split at h
    ·rename_i af hf
     split at h
     ·rename_i hlen
      have hH: ∀m,m<n→ ∀ (B:Nat→Prop) (K:Nat×Nat),qe ⟨X,B,K⟩ E (dm E (exec E m)):=fun m hm B K=>IS hE.inj (fun f F aD res h1 h2=>ih m hm f F aD res h1 h2) hE.Cs
      split at h
      ·split at h
       ·rename_i σ hx;exact oH hE hH hf hF hlen hx (.inl rfl) h
       ·rename_i σ hx;exact oH hE hH hf hF hlen hx (.inr rfl) h
       ·simp at h
      ·rename_i p hp
       split at h
       ·rename_i mz
        have ug: (cC p args).length=af.nparams:=by rw[iv];exact hlen
        split at h
        ·     rename_i σ hx
              rw[afZ] at h
              obtain⟨r0,h,rfl⟩:=h
              exact Cf mz (oH hE hH hf hF ug hx (.inl rfl) h)
        ·     rename_i σ hx
              rw[afZ] at h
              obtain⟨r0,h,rfl⟩:=h
              exact Cf mz (oH hE hH hf hF ug hx (.inr rfl) h)
        ·simp at h
       ·simp at h
     ·simp at h
    ·simp at h
end
end Go.AM
namespace Go.AM
open Go Go.RowKit
section
variable {X:TrEnv} {F:FuncId} {fn:Func}
theorem uL {args:List V} (h:V.ak args=true): (enter args).O=fun _=>bE:=by rw[dT h]
theorem IU (mc:X.P.funcs[F]? =some fn) (gQ: (fn.name== "runtime.NumGoroutine")=false) (hb:fn.body.isNone=true) (hn:Extern.findNext fn=none) (he:Extern.find fn=some Extern.MathSqrt.sqrt)
  {aD:List V} {res:eL} (h:AW aD=some res):bG X F aD res:=by
 unfold AW at h
 split at h
 ·rename_i b
  split at h
  ·rename_i r hr
   injection h with h;subst h
   intro B K w φ0 vals hl hv ho
   match vals,hl with
   | [v],_=>
     have h0:=hv 0 v rfl
     have e0: (enter [V.float b]).T 0= .float b:=rfl
     rw[e0] at h0
     simp only[aj] at h0
     subst h0
     rw[run_callFunc_extern mc gQ hb hn he]
     have ah: (Extern.MathSqrt.sqrt #[.float .f64 b]).run X.P w= .ok (.float .f64 r) w:=by
       have e:Extern.MathSqrt.sqrt #[.float .f64 b]=(match FloatKind.f64.format.sqrt b with
        | some r=>pure (.float .f64 r)
        | none=>do pure (.float .f64 (←choose (.nanBits .f64 b b)))):=rfl
       rw[e,hr];rfl
     have e1: ([Value.float .f64 b]:List Value).toArray= #[.float .f64 b]:=rfl
     rw[e1,ah]
     simp only[Result.andThen,sC]
     refine⟨φ0,fun _=>dE,_,.float r,[],Le.refl _,ho,by simp[aj],.one (by simp[dH,V.au]),rfl,rfl⟩
  ·simp at h
 ·simp at h
def xV:Env:={fn:=fun _=>none,ext:=fun _ _=>none}
def Wg:bn:=fun _ _=>none
def strip (o:bX):bX:={o with pre:=[]}
structure iD (X:TrEnv) (fn:Func) (sz lim:Nat):Prop where
 body: ∃i0 i1 i2 i3 Dk Ij QB QC,fn.body=some (.seq (.region i0 Dk false) (.seq (.seq (.region i1 Ij false) (.cond (.tmp 4) (.seq (.region i2 QB false) .ret) .skip)) (.seq (.region i3 QC false) .ret)))∧
  (im X ({n:=fn.ntmps}:Hints) Dk Dk.toList).map (List.map strip)=some [⟨some 2,.move (.const .nils),none,[]⟩]∧
  (im X ({n:=fn.ntmps}:Hints) QB QB.toList).map (List.map strip)=some [⟨some 2,.move (.const .nils),none,[]⟩]∧
  (∃zero,aU zero sz=true∧0 <sz∧(im X ({n:=fn.ntmps}:Hints) QC QC.toList).map (List.map strip)=some [⟨some 5,.buildSlice 96 sz zero 0 [],none,[]⟩,⟨some 6,.move (.tmp 0),none,[]⟩,⟨some 7,.append 128 sz lim (.tmp 5) (.tmp 6),none,[]⟩,⟨some 2,.move (.tmp 7),none,[]⟩])∧
  (∃o1 o2 t e,Ij= #[o1,o2]∧(mT X ({n:=fn.ntmps}:Hints) #[o1,o2] o1).map strip=some ⟨some 3,.move (.tmp 0),none,[]⟩∧o2.dst=some 4∧o2.guard=none∧o2.op= .binOp .eql t (.tmp 3) (.const (.slice none 0 0)) t∧X.P.underlying t=some (.slice e))
 res:fn.results= #[.tmp 2]
 tmps:8≤fn.ntmps
theorem JZ {Y:Ctx} (rf: ∀t1 t2 k,Y.pP t1=some k→Y.pP t2=some k→t1=t2):qe Y xV Wg:=
 IS rf (fun _ _ _ _ _ h=>by simp[Wg] at h) (fun _ _ _ h=>by simp[xV] at h)
theorem Dl {Y:Ctx} (rf: ∀t1 t2 k,Y.pP t1=some k→Y.pP t2=some k→t1=t2) (n:Nat):qe Y xV (call xV n):=
 IS rf (fun _ _ _ _ _ h=>by simp[call,dm,eZ,xV] at h) (fun _ _ _ h=>by simp[xV] at h)
theorem iJ (rf: ∀t1 t2 k,X.pP t1=some k→X.pP t2=some k→t1=t2) (mc:X.P.funcs[F]? =some fn) (gQ: (fn.name== "runtime.NumGoroutine")=false) {sz lim:Nat} (hsh:iD X fn sz lim)
   {aD:List V} {res:eL} (h:dy sz lim aD=some res):bG X F aD res:=by
 obtain⟨⟨i0,i1,i2,i3,Dk,Ij,QB,QC,fS,h0,h2,⟨zero,xp,Am,h3⟩,o1,o2,t,e,rfl,Uy,LG,HF,abg,hty⟩,iO,FJ⟩:=hsh
 rw[afZ] at h0 h2 h3 Uy
 obtain⟨eV,h0,k0⟩:=h0
 obtain⟨as2,h2,k2⟩:=h2
 obtain⟨as3,h3,k3⟩:=h3
 obtain⟨ao1,Uy,k1⟩:=Uy
 have XT:eV.map (fun o=> {o with pre:=[]})=_:=k0
 have k2':as2.map (fun o=> {o with pre:=[]})=_:=k2
 have k3':as3.map (fun o=> {o with pre:=[]})=_:=k3
 obtain⟨a0,xs,rfl,uh,Gg,rfl⟩: ∃a0 xs,aD=[a0]∧(a0= .lit sz xs∨a0= .nils∧xs=[])∧xs.length≤lim∧res=⟨.own sz xs,[]⟩:=by
   unfold dy at h
   split at h
   ·injection h with h;exact⟨_,[],rfl,.inr ⟨rfl,rfl⟩,afU,h.symm⟩
   ·rename_i sz' xs
    split at h
    ·rename_i he;injection h with h;obtain⟨rfl,he⟩:=he;exact⟨_,xs,rfl,.inl rfl,he,h.symm⟩
    ·simp at h
   ·simp at h
 have mz:V.ak [a0]=true:=by rcases uh with rfl| ⟨rfl,rfl⟩ <;>rfl
 intro B K w φ0 vals BN hv ho
 have hO: (enter [a0]).O=fun _=>bE:=uL mz
 have hT0: (enter [a0]).T 0=a0:=by rw[dT mz];rfl
 have WR: (callFunc F vals.toArray).run X.P w= .ok (.enter F vals.toArray) w:=by
   simp[callFunc,Sem.run_bind,program,Sem.run,mc,fS]
   simpa using gQ
 rw[WR]
 simp only[sC]
 refine(callsIn_wide (n:=0)).1 (callsIn_of_wp_marks (F:=Fr none) mc fS trivial ?_ rfl)
 have bF:vals.toArray.size≤fn.ntmps:=by simp[BN];omega
 have j4:jy ⟨X,B,K⟩ ⟨w,φ0,(enter [a0]).O⟩ ⟨fn.ntmps,w.heap.size,none⟩ (enter [a0]) {tmps:=vals.toArray++Array.replicate (fn.ntmps - vals.toArray.size) undef,defers:=[]} w:=by
   refine⟨Marks.nil (af6 _) afU,by simp at bF ⊢;omega,φ0,⟨fun t=> ?_,ho⟩,Le.refl _⟩
   by_cases ht:t<vals.length
   ·have e1: (vals.toArray++Array.replicate (fn.ntmps - vals.toArray.size) undef).getD t undef=vals[t]:=by
     simp[ag7,ht]
    rw[e1]
    exact hv t _ (af3 ht)
   ·have e1: (vals.toArray++Array.replicate (fn.ntmps - vals.toArray.size) undef).getD t undef=undef:=by
     simp[ag7,ht,ahu]
     split<;>rfl
    have e2: (enter [a0]).T t=dE:=by
     have: [a0][t]? =none:=agZ ae0
     simp[enter,this]
    rw[e1,e2]
    exact qN
 have H:=JZ (Y:=⟨X,B,K⟩) rf
 refine wpIn_seq (wpIn_mono (wpIn_region (Q:=fun ex a w'=>ex= .normal∧jy ⟨X,B,K⟩ ⟨w,φ0,(enter [a0]).O⟩ ⟨fn.ntmps,w.heap.size,none⟩ ((enter [a0]).put (some 2) .nils) a w') ?_) ?_)
 · rw[aha]
   refine ft H (h:=({n:=fn.ntmps}:Hints)) rfl h0 Dk.size 0 ae0 j4 (by rw[List.drop_zero,XT];rfl) fun a' w' ji=> ⟨rfl,ji⟩
 rintro ex a1 w1 ⟨rfl,iY⟩
 refine wpIn_seq (wpIn_seq (wpIn_region ?_))
 have aff:List.range (#[o1,o2]:Array Oper).size=[0,1]:=rfl
 rw[aff,wpOpsIn_cons]
 have eT0: ((enter [a0]).put (some 2) .nils).T 0=a0:=hT0
 have abh:dK xV Wg ao1 ((enter [a0]).put (some 2) .nils)=some (((enter [a0]).put (some 2) .nils).put (some 3) a0):=by
   have hs:dK xV Wg (strip ao1) ((enter [a0]).put (some 2) .nils)=some (((enter [a0]).put (some 2) .nils).put (some 3) a0):=by
    rw[k1]
    show some (((enter [a0]).put (some 2) .nils).put (some 3) (((enter [a0]).put (some 2) .nils).T 0))=_
    rw[eT0]
   exact hs
 refine lJ H (h:=({n:=fn.ntmps}:Hints)) (o:=o1) rfl Uy rfl iY abh fun a2 w2 nZ=> ?_
 generalize hσ2: ((enter [a0]).put (some 2) .nils).put (some 3) a0=σ2 at nZ
 have e23:σ2.T 3=a0:=by rw[←hσ2];rfl
 have Xw:σ2.T 0=a0:=by rw[←hσ2];exact hT0
 have e2O:σ2.O=fun _=>bE:=by rw[←hσ2];exact hO
 rw[wpOpsIn_cons]
 obtain⟨Qs,GC,φ2,oV,WI⟩:=nZ
 have C3:=oV.tmps 3
 rw[e23] at C3
 obtain⟨ad,n,cap,DK⟩: ∃ad n cap,a2.tmps.getD 3 undef= .slice ad n cap:=by
   rcases uh with rfl| ⟨rfl,_⟩
   ·simp only[aj] at C3
    obtain⟨_,_,a,c,_,h,_⟩:=C3
    exact⟨_,_,_,h⟩
   ·simp only[aj] at C3
    obtain⟨a,h⟩:=C3
    exact⟨_,_,_,h⟩
 have uz:ad.isNone=true→xs=[]:=by
   intro hn
   rcases uh with rfl| ⟨rfl,h9⟩
   ·simp only[aj] at C3
    obtain⟨_,_,a,c,_,h,_,_,h'⟩:=C3
    rw[DK] at h
    injection h with h _ _
    rcases h' with h'| ⟨b,o,h',_⟩
    ·exact h'
    ·rw[h,h'] at hn;simp at hn
   ·exact h9
 have heq: (Op.equal t (.slice ad n cap) (.slice none 0 0)).run X.P w2= .ok ad.isNone w2:=run_equal_slice_nil w2 t e ad n cap hty
 have jl: (execOp a2.eval o2).run X.P w2= .ok (.value (.bool ad.isNone)) w2:=by
   simp only[execOp,abg]
   refine du ?_
   have ev:a2.eval (.tmp 3)= .slice ad n cap:=by simpa [Go.Act.eval] using DK
   have gH:a2.eval (.const (.slice none 0 0))= .slice none 0 0:=rfl
   simp[eqGuard,ev,gH,Go.binOp,Sem.run_bind,heq]
 have qA: (#[o1,o2]:Array Oper)[1]? =some o2:=rfl
 simp only[wpOpIn,qA]
 rw[if_pos (by simp[Region.wanted,HF])]
 refine qL (by rw[abg];simp) ?_
 unfold Oper.wp
 rw[jl,Oper.upon_value]
 simp only[wpOpsIn]
 have BL:jy ⟨X,B,K⟩ ⟨w,φ0,(enter [a0]).O⟩ ⟨fn.ntmps,w.heap.size,none⟩ (σ2.put (some 4) (.bool ad.isNone)) (a2.put o2.dst (.bool ad.isNone)) w2:=by
   rw[LG]
   refine⟨by rw[put_defers];exact Qs,by rw[lK];exact GC,φ2,?_,?_⟩
   ·exact ox oV (Le.refl _) oV.a8 (by simp[aj]) (by simp;rw[GC];simp;omega) σ2.O
   ·exact WI
 generalize a2.put o2.dst (.bool ad.isNone)=a3 at BL ⊢
 have Tr:a3.eval (.tmp 4)= .bool ad.isNone:=zX (c':= .tmp 4) BL rfl rfl
 have I8:V.ak xs=true∧xs.all (aU · sz)=true:=by
   rcases uh with rfl| ⟨rfl,h9⟩
   ·simp only[aj] at C3
    obtain⟨k1,k2,a,c,vs,_,_,k3,k4⟩:=C3
    refine⟨k1,?_⟩
    rcases k4 with rfl| ⟨b,o,_,_,_,k5⟩
    ·rfl
    ·rw[af5] at k2 ⊢
     intro x hx
     obtain⟨i,hi⟩:=agt.1 hx
     obtain⟨v,XG,JM⟩:=ag.get k3 hi
     have:=(k5 i v XG).1
     rw[JM.fp (k2 x hx)] at this
     simp[aU,this,k2 x hx]
   ·subst h9;exact⟨rfl,rfl⟩
 have abi: ∀ (a':Go.Act) (w':World) (O':Nat→Obj),Marks ⟨fn.ntmps,w.heap.size,none⟩ w' a'.defers→(∃φ',Le ⟨w,φ0,(enter [a0]).O⟩ ⟨w',φ',O'⟩∧ba ⟨X,B,K⟩ ⟨w',φ',O'⟩∧ ∃r g,1≤r∧aj ⟨X,B,K⟩ ⟨w',φ',O'⟩ (.sl r g 0 xs.length) (a'.tmps.getD 2 undef)∧O' r=⟨g,sz,true,false,some xs⟩)→
    bodyPostM (Fr none) 0 X.P fn (fun| .returned val,w'=> ∃φ' T' O' v0 refs,Le ⟨w,φ0,(enter [a0]).O⟩ ⟨w',φ',O'⟩∧ba ⟨X,B,K⟩ ⟨w',φ',O'⟩∧aj ⟨X,B,K⟩ ⟨w',φ',O'⟩ v0 val∧dv [a0].length ⟨T',O'⟩ v0 (eL.mk (.own sz xs) []).val refs∧distinct refs=true∧cI O' 0 [a0]=some (eL.mk (.own sz xs) []).outs| _,_=>False) .ret a' w':=by
   rintro a' w' O' hd ⟨φ',k1,k2,r,g,k3,k4,k5⟩
   refine pQ (fun w'=> (Le ⟨w,φ0,(enter [a0]).O⟩ ⟨w',φ',O'⟩∧ba ⟨X,B,K⟩ ⟨w',φ',O'⟩)∧aj ⟨X,B,K⟩ ⟨w',φ',O'⟩ (.sl r g 0 xs.length) (a'.tmps.getD 2 undef)) (fun w1 D h1 h2 ⟨⟨hle,D4⟩,hv⟩=> ⟨⟨Dm hle h1,vA D4 h2⟩,aj.ck (iA (μ:=⟨w1,φ',O'⟩) h2 rfl rfl) hv⟩) ?_ hd ⟨⟨k1,k2⟩,k4⟩
   rintro w' ⟨⟨k1,k2⟩,k4⟩
   refine⟨a'.tmps.getD 2 undef,by simp[results,iO],φ',fun _=>dE,O',_,[r],k1,k2,k4,.one ?_,rfl,jS mz⟩
   have CK:aF xs 0 xs.length=xs:=yd rfl
   have hnr: ¬r< [a0].length:=by simp;omega
   simp only[dH,V.au,cz,k5,CK,I8.1,hnr]
   simp
 cases hb:ad.isNone with
 | true=>
   rw[hb] at Tr
   obtain rfl:=uz hb
   refine wpIn_cond_true Tr (wpIn_seq (wpIn_region ?_))
   rw[aha]
   refine ft H (h:=({n:=fn.ntmps}:Hints)) rfl h2 QB.size 0 ae0 BL (σ':=(σ2.put (some 4) (.bool ad.isNone)).put (some 2) .nils) (by rw[List.drop_zero,k2'];rfl) fun a' w' ji=> ?_
   refine wpIn_ret ?_
   obtain⟨oX,_,φ,vn,pR⟩:=ji
   have eO: ((σ2.put (some 4) (.bool ad.isNone)).put (some 2) .nils).O=fun _=>bE:=e2O
   have JM:=vn.tmps 2
   have e2: ((σ2.put (some 4) (.bool ad.isNone)).put (some 2) .nils).T 2= .nils:=rfl
   rw[e2] at JM
   have eS:=vn.a8
   rw[eO] at pR eS
   simp only[aj] at JM
   obtain⟨aa,haa⟩:=JM
   refine abi a' w' (cU (fun _=>bE) 1 ⟨1,sz,true,false,some []⟩) oX ⟨cU φ 1 ⟨0,0,0⟩,pR.trans ⟨af6 _,fun b hb hn=> ⟨rfl,?_⟩,fun r=> ?_,fun r hr=> ?_,rfl,rfl,rfl,fun _ _=>rfl⟩,⟨fun r es bo=> ?_,fun r r' _ h1 h2 h3 h4=> ?_,fun r h1 h2=> ?_,eS.blt⟩,1,1,af6 _,?_,rfl⟩
   ·rintro⟨r,h1,h2,h3,h4⟩
    by_cases e:r=1
    ·subst e;simp[cU] at h3
    ·simp[cU,e,bE] at h1
   ·simp only[bE];omega
   ·by_cases e:r=1
    ·subst e;simp[cU,bE] at hr
    ·simp[cU,e]
   ·by_cases e:r=1
    ·subst e
     simp only[cU,if_true,afY] at bo ⊢
     subst bo
     left
     unfold mB
     simp only[cU,if_true]
     exact⟨Am,afU,rfl,afU⟩
    ·simp[cU,e,bE] at bo
   ·by_cases e:r=1
    ·subst e;simp[cU] at h3
    ·simp[cU,e,bE] at h1
   ·by_cases e:r=1
    ·subst e;simp[cU] at h2
    ·simp[cU,e,bE] at h1
   ·simp only[aj]
    exact⟨aa,0,haa,afU,by simp[cU],fun _=> ⟨by simpa [cU] using Am,by simp[cU],afU⟩⟩
 | false=>
   rw[hb] at Tr
   refine wpIn_cond_false Tr (wpIn_skip ?_)
   refine wpIn_seq (wpIn_region ?_)
   have hw3: ∃σ4 g,iw xV Wg [⟨some 5,.buildSlice 96 sz zero 0 [],none,[]⟩,⟨some 6,.move (.tmp 0),none,[]⟩,⟨some 7,.append 128 sz lim (.tmp 5) (.tmp 6),none,[]⟩,⟨some 2,.move (.tmp 7),none,[]⟩] (σ2.put (some 4) (.bool ad.isNone))=some σ4∧σ4.T 2= .sl 96 g 0 xs.length∧σ4.O 96=⟨g,sz,true,false,some xs⟩:=by
    have abj:σ2.O 96=bE:=by rw[e2O]
    have Kd: ∀ (k:List V→Act),content sz a0 k=k xs:=by
     intro k
     rcases uh with rfl| ⟨rfl,rfl⟩ <;>simp[content]
    have Gv:xs≠[]→ ¬xs.length≤0:=fun h h2=>h (List.eq_nil_of_length_eq_zero ae0)
    by_cases hx:xs=[]
    ·simp[iw,dK,cJ,aH,ev,jK,dQ,Act.run,St.put,cU,Xw,abj,Kd,xp,Am,hx,bE,mM,V.ak,overwrite]
    ·have:=Gv hx
     have kA: (∀x ∈ xs,aU x sz=true)=True:=eq_true (af5.1 I8.2)
     simp[iw,dK,cJ,aH,ev,jK,dQ,Act.run,St.put,cU,Xw,abj,Kd,xp,Am,hx,bE,mM,I8.1,kA,Gg,aF,this]
   obtain⟨σ4,g,abk,MG,HF⟩:=hw3
   rw[aha]
   refine ft H (h:=({n:=fn.ntmps}:Hints)) rfl h3 QC.size 0 ae0 BL (by rw[List.drop_zero,k3'];exact abk) fun a' w' ji=> ?_
   refine wpIn_ret ?_
   obtain⟨oX,_,φ,vn,pR⟩:=ji
   have JM:=vn.tmps 2
   rw[MG] at JM
   exact abi a' w' σ4.O oX ⟨φ,pR,vn.a8,96,g,ae0,JM,HF⟩
end
end Go.AM
namespace Go.AM
open Go Go.RowKit Go.ChangeShapes Go.WideShapes
theorem Mk {H:Type} {enc:TypeId×Value→H} {P:Program} {f:Func} {s:ChangeSpec} {apart fresh handsOn again:Bool} {W W':World} {args:Array Value} {v:Value} {ds gs:List (DataW H)} {before pa pv:List MemPlace}
  (hW:DataW.Whole enc P f.params.toList s.vars apart W args.toList ds gs before)
  (iO: ∀ (b:Nat) (sp:Nat→Bool) (hd:Bool),DataW.TrodAll enc P W' b sp hd f.resultTypes.toList (v.resultList f.resultTypes.size) (s.fn H (ds++gs)).results [])
  (j6: ∀sp:Nat→Bool,(∀p ∈ before,sp p.block=true)→DataW.TrodAll enc P W' 0 sp true f.params.toList args.toList (s.fn H (ds++gs)).args pa)
  (UM: ∀sp:Nat→Bool,(∀p ∈ before,sp p.block=true)→DataW.TrodVars enc P W' sp s.vars (s.fn H (ds++gs)).vars pv)
  (CC:before=pa++pv) (hk:W.keptBut W' (· ∈ before)) (gu: ∀a,a.block<W.heap.size→W'.frozen? a=W.frozen? a)
  (Q9: ∀ (j:Nat) (t:TypeId) (r:Value),f.resultTypes[j]? =some t→(v.resultList f.resultTypes.size)[j]? =some r→Value.okWide P W' .any 0 t r):
  s.post enc P f apart fresh handsOn again W args v W':=by
 have hold: ∀p ∈ before,(fun b=>decide (b<W.heap.size)) p.block=true:=fun p hp=>by simpa using hW.lt p hp
 have bk:=hW.lt
 refine⟨ds,gs,before,[],pa,pv,hW,iO _ _ _,j6 _ hold,UM _ hold,World.keptBut_mono (fun p hp=> ⟨hp,?_⟩) hk,fun _=> ?_⟩
 ·rw[CC,agd] at hp
  exact Or.inr hp
 ·obtain⟨_,_,_,_,_,hz,hn⟩:=hW
  refine⟨Q9,_,_,([]++pa)++pv,⟨[]++pa,pv,trodAll_append (j6 _ (fun _ _=>rfl)) (iO _ _ _),UM _ (fun _ _=>rfl),rfl,?_,?_⟩,?_⟩
  ·intro b off hp
   have hb:MemPlace.cell b off ∈ before:=by rw[CC];simpa using hp
   rw[gu _ (bk _ hb)]
   exact hz b off hb
  ·intro ha
   have:=hn ha
   rw[CC] at this
   simpa using this
  ·intro p hp _
   rw[CC]
   simpa using hp
end Go.AM
namespace Go.AM
open Go Go.RowKit
section
variable (P:Program)
def xu (e:TypeId) (ws:List V):V:=match P.underlying e with
 | some (.struct _) | some (.array ..)=> .agg ws
 | _=>ws.headD dE
def TVF (tv:TypeId→List V→Prop):List Field→List V→Prop
 | [],vs=>vs=[]
 | f::fs,vs=> ∃a b,vs=a++b∧a.length=P.cellsOf f.type∧tv f.type a∧TVF tv fs b
def TVA (tv:List V→Prop) (s:Nat):Nat→List V→Prop
 | 0,vs=>vs=[]
 | k+1,vs=> ∃a b,vs=a++b∧a.length=s∧tv a∧TVA tv s k b
def TV:Nat→TypeId→List V→Prop
 | 0,_,_=>False
 | n+1,t,vs=>match P.underlying t with
   | some .bool=> ∃b,vs=[.bool b]
   | some (.int k)=> ∃x,vs=[.int k x]∧(Lit.int k x).wf=true
   | some .string=> ∃s,vs=[.str s]∧s.length≤maxLen
   | some (.slice e)=>vs=[.nils]∨ ∃xs,vs=[.lit (P.cellsOf e) xs]∧xs.length≤maxLen∧ ∀x ∈ xs,∃ws,TV n e ws∧x=xu P e ws
   | some (.struct fs)=>TVF P (TV n) fs.toList vs
   | some (.array k e)=>TVA (TV n e) (P.cellsOf e) k vs
   | _=>False
def qm:List Field→Nat→Option Nat
 | [],off=>some off
 | f::fs,off=>if f.offset=off then qm fs (off+P.cellsOf f.type) else none
def DO (S:List TypeId) (t:TypeId):Bool:=match P.underlying t with
 | some .bool| some (.int _) | some .string=>P.cellsOf t==1
 | some (.slice e)=>P.cellsOf t==1 &&decide (0 <P.cellsOf e) &&S.contains e
 | some (.struct fs)=> (qm P fs.toList 0==some (P.cellsOf t)) &&fs.toList.all fun f=>S.contains f.type
 | some (.array k e)=>S.contains e &&P.cellsOf t==k*P.cellsOf e
 | _=>false
end
section
variable {X:TrEnv} {H:Type} {enc:TypeId×Value→H} {w:World} {S:List TypeId} {base:Nat} {spare:Nat→Bool} {held:Bool}
abbrev still (w:World) (φ:Nat→Row):Mu:=⟨w,φ,fun _=>bE⟩
abbrev free (X:TrEnv):Ctx:=⟨X,fun _=>False,(0,0)⟩
def Good (X:TrEnv) (w:World) (n:Nat) (t:TypeId) (vs:List V) (cs:List Value):Prop:=
 TV X.P n t vs∧vs.all V.aR=true∧V.ak vs=true∧ ∀φ,ag (free X) (still w φ) vs cs
theorem oI: ∀ {a b:List V},V.ak (a++b)=(V.ak a &&V.ak b)
 | [],b=>by simp[V.ak]
 | x::a,b=>by simp[V.ak,oI (a:=a),Bool.and_assoc]
theorem wY {n:Nat}: ∀ {fs:List Field} {cs:List Value} {off total:Nat},qm X.P fs off=some total→cs.length=total→
   (∀f ∈ fs,∃vs,Good X w n f.type vs ((cs.drop f.offset).take (X.P.cellsOf f.type)))→
   ∃vs,TVF X.P (TV X.P n) fs vs∧vs.all V.aR=true∧V.ak vs=true∧ ∀φ,ag (free X) (still w φ) vs (cs.drop off)
 | [],cs,off,total,hc,hl,_=>by
   simp only[qm,afY] at hc
   subst hc
   refine⟨[],rfl,rfl,rfl,fun φ=> ?_⟩
   rw[agn ae0];simp[ag]
 | f::fs,cs,off,total,hc,hl,hf=>by
   simp only[qm] at hc
   split at hc
   ·rename_i ho
    subst ho
    obtain⟨a,Lj,Sk,ha3,XV⟩:=hf f afU
    obtain⟨b,xO,pF,IV,hb4⟩:=wY hc hl (fun g hg=>hf g (by simp[hg]))
    have hle:f.offset+X.P.cellsOf f.type≤total:=by
     clear Lj Sk ha3 XV xO pF IV hb4 hf
     have: ∀ (fs:List Field) (o tt:Nat),qm X.P fs o=some tt→o≤tt:=by
      intro fs
      induction fs with
      | nil=>intro o tt h;simp[qm] at h;omega
      | cons g gs ih=>
        intro o tt h
        simp only[qm] at h
        split at h
        ·have:=ih _ _ h;omega
        ·simp at h
     exact this _ _ _ hc
    have ZV:a.length=X.P.cellsOf f.type:=by
     have:=(XV (fun _=> ⟨0,0,0⟩)).length
     rw[this];simp;omega
    refine⟨a++b,⟨a,b,rfl,ZV,Lj,xO⟩,by simp[Sk,pF],by rw[oI,ha3,IV];rfl,fun φ=> ?_⟩
    have e:cs.drop f.offset=(cs.drop f.offset).take (X.P.cellsOf f.type)++cs.drop (f.offset+X.P.cellsOf f.type):=by
     rw[←ahc,List.take_append_drop]
    rw[e]
    exact ag.append (XV φ) (hb4 φ)
   ·simp at hc
theorem z6 {n:Nat} {e:TypeId}: ∀ (k:Nat) {cs:List Value} (j:Nat),cs.length=(j+k)*X.P.cellsOf e→
   (∀i,i<j+k→ ∃vs,Good X w n e vs ((cs.drop (i*X.P.cellsOf e)).take (X.P.cellsOf e)))→
   ∃vs,TVA (TV X.P n e) (X.P.cellsOf e) k vs∧vs.all V.aR=true∧V.ak vs=true∧ ∀φ,ag (free X) (still w φ) vs (cs.drop (j*X.P.cellsOf e))
 | 0,cs,j,hl,_=>by
   refine⟨[],rfl,rfl,rfl,fun φ=> ?_⟩
   rw[agn (by rw[hl];simp)];simp[ag]
 | k+1,cs,j,hl,hf=>by
   obtain⟨a,Lj,Sk,ha3,XV⟩:=hf j ae0
   have e1:j+1+k=j+(k+1):=ae0
   obtain⟨b,xO,pF,IV,hb4⟩:=z6 k (cs:=cs) (j+1) (by rw[e1];exact hl) (fun i hi=>hf i ae0)
   have ZV:a.length=X.P.cellsOf e:=by
    have:=(XV (fun _=> ⟨0,0,0⟩)).length
    rw[this];simp
    rw[hl,←Nat.sub_mul]
    have:1≤j+(k+1) - j:=ae0
    exact Nat.min_eq_left (Nat.le_mul_of_pos_left _ this)
   refine⟨a++b,⟨a,b,rfl,ZV,Lj,xO⟩,by simp[Sk,pF],by rw[oI,ha3,IV];rfl,fun φ=> ?_⟩
   have e:cs.drop (j*X.P.cellsOf e)=(cs.drop (j*X.P.cellsOf e)).take (X.P.cellsOf e)++cs.drop ((j+1)*X.P.cellsOf e):=by
    rw[agv,Nat.one_mul,←ahc,List.take_append_drop]
   rw[e]
   exact ag.append (XV φ) (hb4 φ)
theorem Ke {α:Type} {p:Nat→α→Prop}: ∀ (n:Nat),(∀i,i<n→ ∃x,p i x)→ ∃xs:List α,xs.length=n∧ ∀i x,xs[i]? =some x→p i x
 | 0,_=> ⟨[],rfl,afU⟩
 | n+1,h=>by
   obtain⟨xs,h1,h2⟩:=Ke n (fun i hi=>h i ae0)
   obtain⟨x,hx⟩:=h n ae0
   refine⟨xs++[x],by simp[h1],fun i y hy=> ?_⟩
   by_cases hi:i<xs.length
   ·rw[agM hi] at hy;exact h2 i y hy
   ·rw[agU ae0] at hy
    have:i - xs.length=0:=by
     have:=(af0.1 hy).1
     simp at this;omega
    rw[this] at hy
    simp at hy;subst hy
    have:i=n:=ae0
    subst this;exact hx
theorem trod_good (hS:S.all (DO X.P S)=true): ∀ (n:Nat) (t:TypeId) (cs:List Value) (x:DataW H×List MemPlace),t ∈ S→DataW.trod enc X.P w base spare held n t cs=some x→ ∃vs,Good X w n t vs cs:=by
 intro n
 induction n with
 | zero=>intro t cs x _ h;simp[DataW.trod] at h
 | succ n ih=>
   intro t cs x ht h
   have hp:=af5.1 hS t ht
   unfold DO at hp
   cases hu:X.P.underlying t with
   | none=>rw[hu] at hp;simp at hp
   | some desc=>
     rw[hu] at hp
     cases desc with
     | bool=>
       obtain⟨b,rfl,_⟩:=DataW.trod_bool hu h
       exact⟨[.bool b],by simp[TV,hu],rfl,rfl,fun φ=>by simp[ag,aj]⟩
     | int k=>
       obtain⟨m,rfl,_,hw⟩:=DataW.trod_int hu h
       exact⟨[.int k m],by simp[TV,hu,hw],rfl,rfl,fun φ=>by simp[ag,aj]⟩
     | string=>
       obtain⟨s,rfl,_,hm⟩:=DataW.trod_string hu h
       exact⟨[.str s.data.toList],by simp only[TV,hu];exact⟨_,rfl,by simpa using hm⟩,rfl,rfl,fun φ=>by simp only[ag,aj];exact⟨⟨s,rfl,rfl⟩,trivial⟩⟩
     | slice e=>
       simp only[af2,decide_eq_true_eq] at hp
       obtain⟨⟨_,Gv⟩,he⟩:=hp
       have kE:e ∈ S:=by simpa using he
       rcases DataW.trod_slice hu h with⟨rfl,_⟩ | ⟨a,len,cap,elems,rest,m,hn,rfl,_,hb,hl,hm,hlen,rB,_,_⟩
       ·exact⟨[.nils],by simp[TV,hu],rfl,rfl,fun φ=>by simp only[ag,aj];exact⟨⟨none,rfl⟩,trivial⟩⟩
       ·obtain rfl:n=m:=ae0
        have each: ∀i,i<len→ ∃q:V×Value,(∃ws,TV X.P n e ws∧q.1=xu X.P e ws)∧q.1.au=true∧q.1.da=true∧(∀φ,aj (free X) (still w φ) q.1 q.2)∧
          q.2.cells.size=X.P.cellsOf e∧ ∀j c,q.2.cells[j]? =some c→w.cell? ((a.add (i*X.P.cellsOf e)).add j)=some c:=by
         intro i hi
         have h1:=rB i hi
         rw[af3 ae0] at h1
         rw[Option.bind_eq_some_iff] at h1
         obtain⟨cP,hc,kH⟩:=h1
         obtain⟨_,ig,iG⟩:=World.cells?_some hc
         obtain⟨ws,g1,g2,g3,g4⟩:=ih e cP _ kE kH
         have oa:ws.length=cP.length:=(g4 (fun _=> ⟨0,0,0⟩)).length
         have DP: ∀ (v:Value),v.cells.toList=cP→v.cells.size=X.P.cellsOf e∧ ∀j c,v.cells[j]? =some c→w.cell? ((a.add (i*X.P.cellsOf e)).add j)=some c:=by
          intro v hv
          have hs:v.cells.size=cP.length:=by rw[←hv];simp
          refine⟨by rw[hs,ig],fun j c hj=> ?_⟩
          have P6:cP[j]? =some c:=by rw[←hv];simpa using hj
          rw[iG j (by have:=(af0.1 P6).1;omega)];exact P6
         have Wm: (∃fs,X.P.underlying e=some (.struct fs))∨(∃k e',X.P.underlying e=some (.array k e'))∨xu X.P e ws=ws.headD dE∧ws.length=1:=by
          have B1:=af5.1 hS e kE
          unfold DO at B1
          cases hue:X.P.underlying e with
          | none=>rw[hue] at B1;simp at B1
          | some d=>
            rw[hue] at B1
            cases d<;>simp at B1
            case struct fs=>exact .inl ⟨fs,rfl⟩
            case array k e'=>exact .inr (.inl ⟨k,e',rfl⟩)
            all_goals exact .inr (.inr ⟨by simp[xu,hue],by simp_all⟩)
         have asAgg:xu X.P e ws= .agg ws→ ∃q:V×Value,(∃ws,TV X.P n e ws∧q.1=xu X.P e ws)∧q.1.au=true∧q.1.da=true∧(∀φ,aj (free X) (still w φ) q.1 q.2)∧
            q.2.cells.size=X.P.cellsOf e∧ ∀j c,q.2.cells[j]? =some c→w.cell? ((a.add (i*X.P.cellsOf e)).add j)=some c:=by
          intro hmk
          refine⟨(xu X.P e ws,.agg cP.toArray),⟨ws,g1,rfl⟩,?_,?_,fun φ=> ?_,DP _ (by simp[Value.cells])⟩
          ·simp only[hmk,V.au,g3]
          ·simp[hmk,V.da,V.isAgg]
          ·simp only[hmk,aj];exact⟨g2,_,rfl,by simpa using g4 φ⟩
         rcases Wm with⟨fs,hs⟩ | ⟨k,e',hs⟩ | ⟨hmk,h1⟩
         ·exact asAgg (by simp[xu,hs])
         ·exact asAgg (by simp[xu,hs])
         ·match ws,h1,cP,oa,g1,g2,g3,g4,DP with
          | [x],_,[c],_,g1,g2,g3,g4,DP=>
            have g4': ∀φ,aj (free X) (still w φ) x c:=fun φ=>by have:=g4 φ;simp only[ag] at this;exact this.1
            have g2':x.aR=true:=by simpa using g2
            refine⟨(x,c),⟨[x],g1,by simp[hmk]⟩,by simpa [V.ak] using g3,by simp[V.da,g2'],g4',DP c ?_⟩
            rw[((g4' (fun _=> ⟨0,0,0⟩)).oA g2').2]
        obtain⟨qs,q1,q2⟩:=Ke len each
        refine⟨[.lit (X.P.cellsOf e) (qs.map (·.1))],?_,rfl,rfl,fun φ=> ?_⟩
        ·simp only[TV,hu]
         refine .inr ⟨_,rfl,by simp[q1];omega,fun x hx=> ?_⟩
         obtain⟨q,hq,rfl⟩:=agk.1 hx
         obtain⟨i,hi⟩:=agt.1 hq
         exact(q2 i q hi).1
        ·simp only[   ag,aj,and_true]
         refine⟨GD fun x hx=> ?_,?_,some a,cap,qs.map (·.2),by simp[q1],by simp[q1];omega,?_,?_⟩
         ·obtain⟨q,hq,rfl⟩:=agk.1 hx
          obtain⟨i,hi⟩:=agt.1 hq
          exact(q2 i q hi).2.1
         ·rw[af5]
          intro x hx
          obtain⟨q,hq,rfl⟩:=agk.1 hx
          obtain⟨i,hi⟩:=agt.1 hq
          exact(q2 i q hi).2.2.1
         ·refine ag.zy afU fun i y u hy hu=> ?_
          rw[age] at hy hu
          cases hq:qs[i]? with
          | none=>simp[hq] at hy
          | some q=>
            simp[hq] at hy hu
            subst hy hu
            exact(q2 i q hq).2.2.2.1 φ
         ·cases qs with
          | nil=>exact .inl rfl
          | cons q0 qs=>
            right
            have dX: ∀ (i:Nat) (q:V×Value),(q0::qs)[i]? =some q→ ∀j c,q.2.cells[j]? =some c→w.cell? ((a.add (i*X.P.cellsOf e)).add j)=some c:=fun i q hi=> (q2 i q hi).2.2.2.2.2
            have bF: ∀ (i:Nat) (q:V×Value),(q0::qs)[i]? =some q→q.2.cells.size=X.P.cellsOf e:=fun i q hi=> (q2 i q hi).2.2.2.2.1
            have h0:=dX 0 q0 rfl 0 (q0.2.cells[0]'(by rw[bF 0 q0 rfl];exact Gv)) (agl _)
            obtain⟨ab,ao,asp⟩:=a
            have C5:asp=none∧ab<w.heap.size:=by
             simp only[Nat.zero_mul,Addr.add,if_true,World.cell?] at h0
             split at h0
             ·      rename_i c T f hh
                    split at h0
                    ·simp at h0
                    ·rename_i hn
                     exact⟨by cases asp<;>simp_all,(af1.1 hh).1⟩
             ·simp at h0
            obtain⟨rfl,bk⟩:=C5
            refine⟨ab,ao,rfl,?_,bk,fun i v hv=> ?_⟩
            ·rintro(⟨r,h1,_⟩ | h)
             ·simp[bE] at h1
             ·exact h
            ·rw[     age] at hv
             cases hq: (q0::qs)[i]? with
             | none=>simp[hq] at hv
             |      some q=>
                    simp[hq] at hv
                    subst hv
                    refine⟨bF i q hq,fun j c hc=> ?_⟩
                    have:=dX i q hq j c hc
                    have tE: ∀o m,Addr.add ⟨ab,o,none⟩ m=⟨ab,o+m,none⟩:=by
                     intro o m
                     simp only[Addr.add]
                     split
                     ·rename_i h0;subst h0;rfl
                     ·rfl
                    rw[tE,tE] at this
                    exact this
     | struct fs=>
       simp only[af2,beq_iff_eq] at hp
       obtain⟨Kd,kA⟩:=hp
       obtain⟨xs,m,hm,_,hlen,Q7,hf⟩:=DataW.trod_struct hu h
       obtain rfl:n=m:=ae0
       have key: ∀f ∈ fs.toList,∃vs,Good X w n f.type vs ((cs.drop f.offset).take (X.P.cellsOf f.type)):=by
        intro f hfm
        obtain⟨i,hi⟩:=agt.1 hfm
        have LF:fs[i]? =some f:=by simpa using hi
        have h1:=hf i f LF
        have GQ:i<xs.length:=by rw[Q7];exact(af1.1 LF).1
        rw[af3 GQ] at h1
        exact ih f.type _ _ (by have:=af5.1 kA f hfm;simpa using this) h1
       obtain⟨vs,k1,k2,k3,k4⟩:=wY Kd hlen key
       exact⟨vs,by simp only[TV,hu];exact k1,k2,k3,fun φ=>by simpa using k4 φ⟩
     | array k e=>
       simp only[af2,beq_iff_eq] at hp
       obtain⟨he,bF⟩:=hp
       obtain⟨xs,m,hm,_,hlen,Q7,hf⟩:=DataW.trod_array hu h
       obtain rfl:n=m:=ae0
       have key: ∀i,i< 0+k→ ∃vs,Good X w n e vs ((cs.drop (i*X.P.cellsOf e)).take (X.P.cellsOf e)):=by
        intro i hi
        have h1:=hf i ae0
        rw[af3 ae0] at h1
        exact ih e _ _ (by simpa using he) h1
       obtain⟨vs,k1,k2,k3,k4⟩:=z6 k 0 (by rw[hlen,bF];simp) key
       exact⟨vs,by simp only[TV,hu];exact k1,k2,k3,fun φ=>by simpa using k4 φ⟩
     | _=>simp at hp
where
 GD {cs:List V} (h: ∀x ∈ cs,V.au x=true):V.ak cs=true:=by
  induction cs with
  | nil=>rfl
  | cons c cs ih=>simp only[V.ak,af2];exact⟨h c afU,ih fun x hx=>h x (by simp[hx])⟩
end
end Go.AM
namespace Go.AM
open Go Go.RowKit
def IW (X:TrEnv) (g:Nat) (af:aM):Prop:= ∃F fn h c,X.fo F=some g∧X.P.funcs[F]? =some fn∧(fn.name== "runtime.NumGoroutine")=false∧fn.body=some c∧CA X h fn=some af∧af.nparams≤fn.ntmps
def j7 (X:TrEnv):List (Nat×aM)→Prop
 | []=>True
 | p::ps=>IW X p.1 p.2∧j7 X ps
def Kf (X:TrEnv) (g:Nat) (fn:List V→Option eL):Prop:= ∃F,X.fo F=some g∧ ∀aD res,fn aD=some res→bG X F aD res
def qn (X:TrEnv):List (Nat× (List V→Option eL))→Prop
 | []=>True
 | p::ps=>Kf X p.1 p.2∧qn X ps
theorem j7.mem {X:TrEnv}: ∀ {tab:List (Nat×aM)},j7 X tab→ ∀p ∈ tab,IW X p.1 p.2
 | [],_,p,hp=>by simp at hp
 | q::qs,h,p,hp=>by
   rcases af7.1 hp with rfl| hp
   ·exact h.1
   ·exact j7.mem h.2 p hp
theorem qn.mem {X:TrEnv}: ∀ {tab:List (Nat× (List V→Option eL))},qn X tab→ ∀p ∈ tab,Kf X p.1 p.2
 | [],_,p,hp=>by simp at hp
 | q::qs,h,p,hp=>by
   rcases af7.1 hp with rfl| hp
   ·exact h.1
   ·exact qn.mem h.2 p hp
def Kg (X:TrEnv) (g:Nat) (h:QX):Prop:= ∃F,X.fo F=some g∧ ∀C:bn,(∀f F aD res,X.fo F=some f→C f aD=some res→bG X F aD res)→ ∀aD res,h.h C aD=some res→bG X F aD res
def qo (X:TrEnv):List (Nat×QX)→Prop
 | []=>True
 | p::ps=>Kg X p.1 p.2∧qo X ps
theorem qo.mem {X:TrEnv}: ∀ {tab:List (Nat×QX)},qo X tab→ ∀p ∈ tab,Kg X p.1 p.2
 | [],_,p,hp=>by simp at hp
 | q::qs,h,p,hp=>by
   rcases af7.1 hp with rfl| hp
   ·exact h.1
   ·exact qo.mem h.2 p hp
def pL (X:TrEnv) (g:Nat) (it:List V→Option (List (List V))):Prop:= ∃F,X.fo F=some g∧ ∀caps xs,it caps=some xs→ ∀ (B:Nat→Prop) (K:Nat×Nat) (μ:Mu) (lb:Array Value),ag ⟨X,B,K⟩ μ caps lb.toList→ba ⟨X,B,K⟩ μ→xX ⟨X,B,K⟩ μ F lb xs
def mK (X:TrEnv):List (Nat× (List V→Option (List (List V))))→Prop
 | []=>True
 | p::ps=>pL X p.1 p.2∧mK X ps
theorem mK.mem {X:TrEnv}: ∀ {tab:List (Nat× (List V→Option (List (List V))))},mK X tab→ ∀p ∈ tab,pL X p.1 p.2
 | [],_,p,hp=>by simp at hp
 | q::qs,h,p,hp=>by
   rcases af7.1 hp with rfl| hp
   ·exact h.1
   ·exact mK.mem h.2 p hp
def gM:List Nat→Bool
 | []=>true
 | x::xs=> !xs.contains x &&gM xs
theorem fJ: ∀ {l:List Nat},gM l=true→ ∀ {i j x:Nat},l[i]? =some x→l[j]? =some x→i=j
 | [],_,i,j,x,h,_=>by simp at h
 | y::l,hd,i,j,x,hi,hj=>by
   simp only[gM,af2,agS] at hd
   have gR: ∀k:Nat,l[k]? =some y→False:=fun k hk=>by
     have:l.contains y=true:=by simpa using List.mem_of_getElem? hk
     rw[hd.1] at this;simp at this
   cases i with
   | zero=>
     cases j with
     | zero=>rfl
     | succ j=>simp at hi hj;subst hi;exact(gR j hj).elim
   | succ i=>
     cases j with
     | zero=>simp at hi hj;subst hj;exact(gR i hi).elim
     | succ j=>simp at hi hj;rw[fJ hd.2 hi hj]
def UN (X:TrEnv) (g:Nat) (h:UR):Prop:= ∃F,X.fo F=some g∧vM X F h
def IX (X:TrEnv):List (Nat×UR)→Prop
 | []=>True
 | p::ps=>UN X p.1 p.2∧IX X ps
theorem IX.mem {X:TrEnv}: ∀ {tab:List (Nat×UR)},IX X tab→ ∀p ∈ tab,UN X p.1 p.2
 | [],_,p,hp=>by simp at hp
 | q::qs,h,p,hp=>by
   rcases af7.1 hp with rfl| hp
   ·exact h.1
   ·exact IX.mem h.2 p hp
theorem Cg {P:Program} {fl:List Nat} {tl:List (Nat×Nat)} (hf:gM fl=true) (ht:gM (tl.map (·.2))=true) (hm:P.follows .mixedOrders=true) {tab:List (Nat×aM)} {ext:List (Nat× (List V→Option eL))} {hyb:List (Nat×QX)} {iter:List (Nat× (List V→Option (List (List V))))} {em:List (Nat×UR)}:
  let X:TrEnv:=⟨P,fun F=>fl[F]?,fun t=> (tl.find? (·.1==t)).map (·.2)⟩
  j7 X tab→qn X ext→qo X hyb→mK X iter→IX X em→vN X (mkEM tab ext hyb iter em):=by
 intro X h1 h2 h3 h4 h5
 have qp: ∀F F' g,X.fo F=some g→X.fo F'=some g→F=F':=fun F F' g h h'=>fJ hf h h'
 refine⟨fun t1 t2 k h h'=> ?_,hm,fun f af F h hF=> ?_,fun f aD res F h hF=> ?_,fun g F caps xs h hF=> ?_,fun f F g h hF=> ?_,fun f g F h hF C hC aD res hr=> ?_⟩
 ·simp only[X,afZ] at h h'
  obtain⟨p,hp,rfl⟩:=h
  obtain⟨q,hq,hqp⟩:=h'
  have e1:=ahw hp
  have e2:=ahw hq
  obtain⟨i,hi⟩:=agt.1 (agN hp)
  obtain⟨j,hj⟩:=agt.1 (agN hq)
  have:i=j:=fJ ht (i:=i) (j:=j) (x:=p.2) (by simp[hi]) (by simp[hj,hqp])
  subst this
  rw[hi] at hj;injection hj with hj;subst hj
  simp at e1 e2;exact e1.symm.trans e2
 ·simp only[mkEM,XX,afZ] at h
  obtain⟨p,hp,rfl⟩:=h
  have e1:=ahw hp
  simp at e1;subst e1
  obtain⟨F',fn,hh,c,k1,k2,k3,k4,k5,k6⟩:=j7.mem h1 p (agN hp)
  obtain rfl:=qp F F' _ hF k1
  exact⟨fn,hh,c,k2,k3,k4,k5,k6⟩
 ·simp only[mkEM,TL] at h
  split at h
  ·rename_i p hp
   have e1:=ahw hp
   simp at e1;subst e1
   obtain⟨F',k1,k2⟩:=qn.mem h2 p (agN hp)
   obtain rfl:=qp F F' _ hF k1
   exact k2 aD res h
  ·simp at h
 ·simp only[mkEM,M6] at h
  split at h
  ·rename_i p hp
   have e1:=ahw hp
   simp at e1;subst e1
   obtain⟨F',k1,k2⟩:=mK.mem h4 p (agN hp)
   obtain rfl:=qp F F' _ hF k1
   exact k2 caps xs h
  ·simp at h
 ·simp only[mkEM,M7,afZ] at h
  obtain⟨p,hp,rfl⟩:=h
  have e1:=ahw hp
  simp at e1;subst e1
  obtain⟨F',k1,k2⟩:=IX.mem h5 p (agN hp)
  obtain rfl:=qp F F' _ hF k1
  exact k2
 ·simp only[mkEM,Jc,afZ] at h
  obtain⟨p,hp,rfl⟩:=h
  have e1:=ahw hp
  simp at e1;subst e1
  obtain⟨F',k1,k2⟩:=qo.mem h3 p (agN hp)
  obtain rfl:=qp F F' _ hF k1
  exact k2 C hC aD res hr
theorem QD {P:Program} {fl:List Nat} {tl:List (Nat×Nat)} (hf:gM fl=true) (ht:gM (tl.map (·.2))=true) (hm:P.follows .mixedOrders=true) {tab:List (Nat×aM)} {ext:List (Nat× (List V→Option eL))} {hyb:List (Nat×QX)} {iter:List (Nat× (List V→Option (List (List V))))}:
  let X:TrEnv:=⟨P,fun F=>fl[F]?,fun t=> (tl.find? (·.1==t)).map (·.2)⟩
  j7 X tab→qn X ext→qo X hyb→mK X iter→vN X (mkE tab ext hyb iter):=
 fun h1 h2 h3 h4=>Cg hf ht hm h1 h2 h3 h4 (em:=[]) trivial
theorem GF {μ μ':Mu} (h:Le μ μ') (gR: ∀b,¬μ.own b):Below μ.w.heap.size μ.w μ'.w:=
 ⟨h.os,h.tape,h.output,h.size,fun k hk=> (h.bS k hk (gR k)).1⟩
theorem Ml {X:TrEnv} {E:Env} (hE:vN X E) {F g:Nat} (hF:X.fo F=some g) {fn:Func} (mc:X.P.funcs[F]? =some fn) (gQ: (fn.name== "runtime.NumGoroutine")=false) {cd:Code} (fS:fn.body=some cd)
   {args:List V} {b:Bool} (tL:Ev E g args ⟨.bool b,[]⟩) (hp:V.ak args=true) {w:World} {vals:List Value} (hv: ∀φ,ag (free X) (still w φ) args vals):
   Calls X.P F vals.toArray w fun e w'=>e= .returned (.bool b)∧Below w.heap.size w w'∧ ∀a,a.block<w.heap.size→w'.frozen? a=w.frozen? a:=by
 obtain⟨n,hn⟩:=tL
 have hs:bG X F args ⟨.bool b,[]⟩:=zZ hE n g F args _ hF hn
 have hO: (enter args).O=fun _=>bE:=uL hp
 have hT: ∀ (t:Nat) (a:V),args[t]? =some a→(enter args).T t=a:=fun t a ha=>by rw[dT hp];simp[List.getD,ha]
 have zp:=hv (fun _=> ⟨0,0,0⟩)
 have hU:=hs (fun _=>False) (0,0) w (fun _=> ⟨0,0,0⟩) vals zp.length.symm (fun t v' xS=>by
   have hl:t<args.length:=by rw[zp.length];exact(af0.1 xS).1
   obtain⟨u,hu,bl⟩:=zp.get (af3 hl)
   rw[xS] at hu;injection hu with hu;subst hu
   rw[hT t _ (af3 hl),hO];exact bl) (by
   rw[hO]
   exact⟨fun r es h=>by simp[bE] at h,fun r1 r2 _ h=>by simp[bE] at h,fun r h=>by simp[bE] at h,fun b h=>h.elim⟩)
 have WR: (callFunc F vals.toArray).run X.P w= .ok (.enter F vals.toArray) w:=by
   simp[callFunc,Sem.run_bind,program,Sem.run,mc,fS]
   simpa using gQ
 rw[WR] at hU
 simp only[sC] at hU
 refine Calls.mono hU fun e w' he=> ?_
 cases e with
 | panicked c=>exact he.elim
 | outgrown=>exact he.elim
 | returned val=>
   obtain⟨φ',T',O',v0,refs,k1,k2,k3,k4,k5,k6⟩:=he
   have gR: ∀b,¬ (Mu.mk w (fun _=> ⟨0,0,0⟩) (enter args).O).own b:=fun b=>by rw[hO];rintro⟨r,h,_⟩;simp[bE] at h
   refine⟨?_,GF k1 gR,k1.frozen⟩
   ·have:=(k4.abd k2 k3).pure rfl
    simp only[aj] at this
    rw[this]
end Go.AM
namespace Go.AM
open Ieee
theorem sQ {n k:Nat} (h:n< 2 ^ k) (h0:n≠0):n.log2<k:=(Nat.log2_lt h0).2 h
theorem IY {mag:Nat}:Toward.even.cut false (mag<<< (52 - mag.log2)) (mag.log2 - 52)≤9007199254740992:=by
 have h1:mag< 2 ^ (mag.log2+1):=Nat.lt_log2_self
 have key:mag<<< (52 - mag.log2) / (1 <<< min (mag.log2 - 52) ((mag<<< (52 - mag.log2)).log2+2)) < 9007199254740992:=by
  by_cases he:mag.log2≤52
  ·have e2:mag.log2 - 52=0:=ae0
   rw[e2,Nat.zero_min]
   rw[ahC,ahC,Nat.pow_zero,Nat.mul_one,Nat.div_one]
   calc mag*2 ^ (52 - mag.log2) < 2 ^ (mag.log2+1)*2 ^ (52 - mag.log2):=Nat.mul_lt_mul_of_pos_right h1 (Nat.two_pow_pos _)
    _=2 ^ 53:=by rw[←Nat.pow_add];congr 1;omega
    _=9007199254740992:=afV
  ·have e1:52 - mag.log2=0:=ae0
   rw[e1]
   simp only[Nat.shiftLeft_zero]
   rw[Nat.min_eq_left ae0]
   simp only[ahC,Nat.one_mul]
   refine Nat.div_lt_of_lt_mul ?_
   calc mag< 2 ^ (mag.log2+1):=h1
    _=2 ^ (mag.log2 - 52)*2 ^ 53:=by rw[←Nat.pow_add];congr 1;omega
    _=2 ^ (mag.log2 - 52)*9007199254740992:=by congr 1
 unfold Toward.cut
 simp only
 generalize mag<<< (52 - mag.log2) / (1 <<< min (mag.log2 - 52) ((mag<<< (52 - mag.log2)).log2+2))=low at key ⊢
 have hb: ∀b:Bool,low+b.toNat≤9007199254740992:=fun b=>by have:=Bool.toNat_le b;omega
 exact hb _
theorem rU {mag:Nat} {place:Int} (h0:mag≠0) (h1: -1000≤place+mag.log2) (h2:place+mag.log2≤200):
  ∃w:Nat,double.nearest false mag place=w∧w≤4503599627370496*((place+mag.log2+1022).toNat+2):=by
 refine⟨_,rfl,?_⟩
 unfold Format.nearest
 rw[if_neg h0]
 have e1:double.leastPlace= -1074:=by simp[Format.leastPlace,double]
 have e2:double.fractionBits=52:=rfl
 have e3:double.binade=4503599627370496:=by simp[Format.binade,double]
 have e4:max (place+(mag.log2:Int) - (double.fractionBits:Nat)) double.leastPlace=place+mag.log2 - 52:=by
  rw[e1,e2];omega
 rw[e4]
 simp only[Format.word,e1,e3]
 have a1: (place - (place+(mag.log2:Int) - 52)).toNat=52 - mag.log2:=ae0
 have a2: (place+(mag.log2:Int) - 52 - place).toNat=mag.log2 - 52:=ae0
 have a3: (place+(mag.log2:Int) - 52 - -1074).toNat=(place+mag.log2+1022).toNat:=by congr 1;omega
 rw[a1,a2,a3]
 have hk:=IY (mag:=mag)
 simp only[aga,if_false]
 refine agm (Nat.min_le_left _ _) ?_
 rw[Nat.mul_add,ahj]
 exact Nat.add_le_add_left hk _
theorem lp:double.leastPlace= -1074:=by simp[Format.leastPlace,double]
theorem bi:double.binade=4503599627370496:=by simp[Format.binade,double]
theorem sw:double.signWeight=9223372036854775808:=by simp[Format.signWeight,double]
theorem ir:double.infRung=9218868437227405312:=by simp[Format.infRung,Format.binade,double]
theorem z7 {w T:Nat} (hT:w≤4503599627370496*(T+2)) (hT2:T≤1290): ∃m p,double.read w= .number false m p∧m< 9007199254740992∧ -1074≤p∧p≤ -1072+(T:Int):=by
 have hq:w / 4503599627370496≤T+2:=Nat.div_le_of_le_mul hT
 have h:w≤4503599627370496*1292:=agm hT (Nat.mul_le_mul_left _ ae0)
 have bk:w< 9223372036854775808:=Nat.lt_of_le_of_lt h afV
 have kb:w< 9218868437227405312:=Nat.lt_of_le_of_lt h afV
 have h1:w / 9223372036854775808=0:=Nat.div_eq_of_lt bk
 have h2:w % 9223372036854775808=w:=Nat.mod_eq_of_lt bk
 have QE: (w / 9223372036854775808 % 2==1)=false:=by rw[h1];rfl
 unfold Format.read
 simp only[lp,bi,sw,ir,h2,QE]
 by_cases hb:w< 4503599627370496
 ·simp only[hb,if_true]
  exact⟨w,-1074,rfl,Nat.lt_trans hb afV,afV,by clear h1 h2 QE hb h bk kb hq hT;omega⟩
 ·have hc:=kb
  simp only[hb,hc,if_true,if_false]
  refine⟨4503599627370496+w % 4503599627370496,-1074+((w / 4503599627370496 - 1:Nat):Int),rfl,?_,?_,?_⟩
  ·have h9:=Nat.mod_lt w (show 0 < 4503599627370496 by decide)
   clear h1 h2 QE hc hb h bk kb hT hq
   generalize w % 4503599627370496=r at h9 ⊢
   omega
  ·clear h1 h2 QE hc hb h bk kb hT hq
   generalize w / 4503599627370496 - 1=q
   omega
  ·clear h1 h2 QE hc hb h bk kb hT
   generalize w / 4503599627370496=q at hq ⊢
   omega
theorem qq (n:Nat): ∀ (todo root:Nat),root*root≤n→Datum.rootFrom n todo root*Datum.rootFrom n todo root≤n
 | 0,root,h=>h
 | todo+1,root,h=>by
   unfold Datum.rootFrom
   by_cases h': (root+1 <<< todo)*(root+1 <<< todo)≤n
   ·simp only[h',if_true];exact qq n todo _ h'
   ·simp only[h',if_false];exact qq n todo _ h
theorem Eu {n:Int} (h0:0 <n) (h1:n≤9223372036854775807):
  ∃r m,FloatKind.f64.format.sqrt (FloatKind.f64.nearest n)=some r∧(FloatKind.f64.decode r).toInt .zero=some m∧0≤m∧m≤9223372036854775807:=by
 have V0:n.natAbs≠0:=ae0
 have afR:n.natAbs.log2< 63:=sQ (by
  have: (2:Nat) ^ 63=9223372036854775808:=afV
  omega) V0
 have eN:FloatKind.f64.nearest n=double.nearest false n.natAbs 0:=by
  have:decide (n< 0)=false:=by simp;omega
  simp only[FloatKind.nearest,FloatKind.encode,FloatKind.format,Format.write,this]
 obtain⟨w,hw,WN⟩:=rU (mag:=n.natAbs) (place:=0) V0 ae0 ae0
 obtain⟨m,p,hr,hm,hp0,hp⟩:=z7 WN (by clear WN;omega)
 clear WN
 rw[eN,hw]
 have hpb:p≤13:=by clear hm;omega
 have fin: ∀ (mag:Nat) (place:Int),mag≠0→ -1000≤place+mag.log2→place+mag.log2≤59→
   ∃r k,double.write (.number false mag place)=r∧(double.read r).toInt .zero=some k∧0≤k∧k≤9223372036854775807:=by
  intro mag place g0 g1 g2
  obtain⟨w2,GR,WU⟩:=rU (mag:=mag) (place:=place) g0 g1 ae0
  obtain⟨m3,p3,SE,hm3,hp3,afS⟩:=z7 WU (by clear WU;omega)
  clear WU
  have hp9:p3≤9:=ae0
  refine⟨w2,_,GR,by rw[SE];rfl,?_⟩
  have afT:Toward.zero.cut false (m3<<< p3.toNat) (-p3).toNat≤m3<<< p3.toNat:=by
   unfold Toward.cut
   simp only[Bool.toNat_false,ahk]
   exact Nat.div_le_self _ _
  have hsh:m3<<< p3.toNat≤m3*512:=by
   rw[ahC]
   refine Nat.mul_le_mul_left _ ?_
   calc 2 ^ p3.toNat≤2 ^ 9:=Nat.pow_le_pow_right ae0 ae0
     _=512:=afV
  simp only[signed,aga,if_false,Nat.shiftLeft_zero]
  omega
 show ∃r k,(((double.read w).root (double.fractionBits+2)).map double.write)=some r∧(double.read r).toInt .zero=some k∧0≤k∧k≤9223372036854775807
 rw[hr]
 simp only[Datum.root]
 by_cases Jq:m=0
 ·subst Jq
  rw[if_pos rfl]
  exact⟨0,0,by simp[Format.write,Format.nearest,Format.word],afV,afV,afV⟩
 ·rw[if_neg Jq]
  simp only[aga,if_false]
  have e2:double.fractionBits=52:=rfl
  rw[e2]
  have CO:m.log2< 53:=sQ (by
   have: (2:Nat) ^ 53=9007199254740992:=afV
   omega) Jq
  generalize afx:2*(52+2) - m.log2+((p - (2*(52+2) - m.log2:Nat)) % 2).toNat=more
  have hmb:56≤more∧more≤109:=ae0
  generalize hwh:Datum.rootFrom (m<<< more) ((m<<< more).log2 / 2+1) 0=whole
  have hle:whole*whole≤m<<< more:=by rw[←hwh];exact qq _ _ _ afU
  have hbound:whole< 2 ^ 81:=by
   rw[ahC] at hle
   have h2:m*2 ^ more< 2 ^ 162:=by
     calc m*2 ^ more< 2 ^ 53*2 ^ more:=Nat.mul_lt_mul_of_pos_right (by
           have: (2:Nat) ^ 53=9007199254740992:=afV
           omega) (Nat.two_pow_pos _)
      _=2 ^ (53+more):=by rw[←Nat.pow_add]
      _≤2 ^ 162:=Nat.pow_le_pow_right ae0 ae0
   rcases ahd whole (2 ^ 81) with h| h
   ·exact h
   · have:2 ^ 81*2 ^ 81≤whole*whole:=Nat.mul_le_mul h h
     have e: (2:Nat) ^ 81*2 ^ 81=2 ^ 162:=by rw[←Nat.pow_add]
     omega
  have Gv:m<<< more≠0:=by
   rw[ahC]
   exact Nat.mul_ne_zero Jq (by have:=Nat.two_pow_pos more;omega)
  generalize WV:2*whole+(whole*whole !=m<<< more).toNat=Ty
  have UO:Ty≠0:=by
   intro h
   rw[h] at WV
   have hw0:whole=0:=ae0
   subst hw0
   have: (0*0 !=m<<< more)=true:=by simp;exact fun h=>Gv h.symm
   rw[this] at WV
   simp at WV
  have abl:Ty< 2 ^ 83:=by
   have hb: (whole*whole !=m<<< more).toNat≤1:=Bool.toNat_le _
   have e: (2:Nat) ^ 83=4*2 ^ 81:=afV
   omega
  have GP:Ty.log2< 83:=sQ abl UO
  obtain⟨r,k,g1,g2,g3,g4⟩:=fin Ty ((p - more) / 2 - 1) UO ae0 ae0
  refine⟨r,k,?_,g2,g3,g4⟩
  simp only[agc]
  exact congrArg some g1
end Go.AM
