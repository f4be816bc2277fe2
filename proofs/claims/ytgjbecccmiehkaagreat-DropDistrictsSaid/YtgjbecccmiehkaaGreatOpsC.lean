/- Texts of the proof. -/
import Derived.Test.YtgjbecccmiehkaaGreatOpsB
import Derived.Test.YtgjbecccmiehkaaGreatBase
import Derived.Laws.Externs
import Derived.Laws.Cover3
import GoSem.Extern.MathSqrt
import Derived.ProofKit
import Derived.ChangeSame
import Derived.ChangeArms
import Derived.OpenShut
import Derived.Deep.Slices
import Derived.Carry
set_option linter.unusedSimpArgs false
set_option linter.unusedVariables false
namespace Go.AM
open Go Go.RowKit
def tq (P:Program) (r:Result Next) (R:Value→World→Prop):Prop:=
 match r with
 | .ok (.value v) w'=>R v w'
 | .ok (.enter f args) w'=>Calls P f args w' fun| .returned v,DR=>R v DR| _,_=>False
 | _=>False
theorem tq.upon {P:Program} {r:Result Next} {R:Value→World→Prop} (h:tq P r R) {o:Oper} {a:Go.Act} {next:Go.Act→World→Prop} {Q:Go.Exit→Go.Act→World→Prop}
  (hn: ∀v w,R v w→next (a.put o.dst v) w):o.upon P a next Q r:=by
 unfold tq at h
 split at h
 ·exact hn _ _ h
 ·rw[Oper.upon_enter]
  refine Calls.mono h fun e w' he=> ?_
  cases e with
  | returned v=>exact hn _ _ he
  | panicked c=>exact he.elim
  | outgrown=>exact he.elim
 ·exact h.elim
def V.gQ:V→Bool
 | .own .. =>true
 | c=>c.aF
theorem qJ {c:V} (h:c.aF=true):c.gQ=true:=by cases c<;>simp_all[V.aF,V.gQ]
inductive cI (n:Nat) (σ:St):V→V→List Nat→Prop
 | one {v0 v:V} {rs:List Nat} (h:dg n σ v0=some (v,rs)):cI n σ v0 v rs
 | many {vs vs':List V} {rs:List Nat} (h:cF n σ vs=some (vs',rs)):cI n σ (.tuple vs) (.tuple vs') rs
def bJ (X:TrEnv) (F:FuncId) (args:List V) (res:eV):Prop:=
 ∀ (B:Nat→Prop) (K:Nat×Nat) (w:World) (φ0:Nat→Row) (vals:List Value),vals.length=args.length→
  (∀t v,vals[t]? =some v→aj ⟨X,B,K⟩ ⟨w,φ0,(enter args).O⟩ ((enter args).T t) v)→aP ⟨X,B,K⟩ ⟨w,φ0,(enter args).O⟩→
  tq X.P ((callFunc F vals.toArray).run X.P w) fun val w'=> ∃φ' T' O' v0 refs,Le ⟨w,φ0,(enter args).O⟩ ⟨w',φ',O'⟩∧aP ⟨X,B,K⟩ ⟨w',φ',O'⟩∧
     aj ⟨X,B,K⟩ ⟨w',φ',O'⟩ v0 val∧cI args.length ⟨T',O'⟩ v0 res.val refs∧distinct refs=true∧bS O' 0 args=some res.outs
inductive JX (Y:Ctx) (μ:Mu) (n:Nat):V→List Nat→Value→Prop
 | pure {c:V} {val:Value} (hp:c.aq=true) (h:aj Y μ c val):JX Y μ n c [] val
 | sl {r g off len:Nat} {es:List V} {val:Value} (hr:r<n) (aZ: (μ.O r).es=some es) (hg: (μ.O r).gen=g) (hl:off+len≤es.length) (h:aj Y μ (.sl r g off len) val):JX Y μ n (.sl r g off len) [r] val
 | own {r g off len:Nat} {es:List V} {val:Value} (hr:n≤r) (aZ: (μ.O r).es=some es) (eB: (μ.O r).fz=false) (hg: (μ.O r).gen=g) (hl:off+len≤es.length) (hp:V.al (aw es off len)=true)
    (h:aj Y μ (.sl r g off len) val):JX Y μ n (.own (μ.O r).sz (aw es off len)) [r] val
inductive vL (Y:Ctx) (μ:Mu) (n:Nat):List V→List Nat→List Value→Prop
 | nil:vL Y μ n [] [] []
 | cons {c:V} {rs rs':List Nat} {val:Value} {cs:List V} {vals:List Value} (h:JX Y μ n c rs val) (hs:vL Y μ n cs rs' vals):vL Y μ n (c::cs) (rs++rs') (val::vals)
section
variable {Y:Ctx} {μ:Mu} {n:Nat}
theorem vL.length {cs:List V} {rs:List Nat} {vals:List Value} (h:vL Y μ n cs rs vals):cs.length=vals.length:=by
 induction h with
 | nil=>rfl
 | cons _ _ ih=>simp[ih]
theorem CL (ho:aP Y μ) {r g off len:Nat} {es:List V} {val:Value} (aZ: (μ.O r).es=some es) (eB: (μ.O r).fz=true) (hg: (μ.O r).gen=g) (hl:off+len≤es.length)
  (hp:V.al (aw es off len)=true) (h:aj Y μ (.sl r g off len) val):aj Y μ (.lit (μ.O r).sz (aw es off len)) val:=by
 simp only[aj] at h ⊢
 obtain⟨a,cap,rfl,hle,mf,bq⟩:=h
 obtain⟨a0,a1,a2⟩:=bq hg
 obtain⟨q1,q2,q3,q4⟩:=ho.row r es aZ a0
 have kZ: (aw es off len).length=len:=by simp[aw];omega
 have iC: (aw es off len).all V.cq=true:=by
  simp only[Zx] at q3 ⊢
  exact fun x hx=> (bH (q3 x (Z5 (ZU hx)))).1
 by_cases Bb:len=0
 ·exact⟨hp,iC,a,cap,[],by rw[kZ],Zl,by simp[aw,Bb,ah],.inl (by simpa using kZ.trans Bb)⟩
 ·rcases q4 with q4| ⟨cc,TT,vs,p1,p2,p3,p4⟩
  ·omega
  ·refine⟨hp,iC,a,cap,(vs.drop off).take len,by rw[kZ],Zl,ah.take _ (ah.drop _ p3),.inr ⟨_,_,a2.resolve_left Zl,?_,(Zu.1 p1).1,(p4.drop off).take len⟩⟩
   rintro(⟨r',k1,k2,k3,k4⟩ | hb)
   ·by_cases e:r'=r
    ·subst e;rw[eB] at k2;simp at k2
    ·exact ho.inj r' r e k1 (by simp[aZ]) k3 Zl k4
   ·exact ho.qY r (by simp[aZ]) Zl hb
theorem kW (ho:aP Y μ) {T:Nat→V} {c c':V} {rs:List Nat} {val:Value} (h:aj Y μ c val) (he:bT n ⟨T,μ.O⟩ c=some (c',rs)):JX Y μ n c' rs val:=by
 unfold bT at he
 split at he
 ·rename_i r g off len
  simp only at he
  split at he
  ·rename_i es aZ
   split at he
   ·rename_i hc
    obtain⟨c1,c2,c3,c4⟩:=hc
    split at he
    ·rename_i hr
     simp only[Zr,Zw] at he
     obtain⟨rfl,rfl⟩:=he
     exact .sl hr aZ c1 c2 h
    ·rename_i hr
     split at he
     ·rename_i eB
      simp only[Zr,Zw] at he
      obtain⟨rfl,rfl⟩:=he
      exact .pure rfl (CL ho aZ eB c1 c2 c4 h)
     ·rename_i eB
      simp only[Zr,Zw] at he
      obtain⟨rfl,rfl⟩:=he
      exact .own Zl aZ (by simpa using eB) c1 c2 c4 h
   ·simp at he
  ·simp at he
 ·split at he
  ·rename_i hp
   simp only[Zr,Zw] at he
   obtain⟨rfl,rfl⟩:=he
   exact .pure hp h
  ·simp at he
theorem fS (ho:aP Y μ) {T:Nat→V}: ∀ {cs b6:List V} {rs:List Nat} {vals:List Value},ah Y μ cs vals→bK n ⟨T,μ.O⟩ cs=some (b6,rs)→vL Y μ n b6 rs vals
 | [],b6,rs,[],_,he=>by simp[bK] at he;obtain⟨rfl,rfl⟩:=he;exact .nil
 | [],_,_,_::_,h,_=>by simp[ah] at h
 | _::_,_,_,[],h,_=>by simp[ah] at h
 | c::cs,b6,rs,v::vs,h,he=>by
   simp only[ah] at h
   simp only[bK] at he
   split at he
   ·rename_i c1 r1 NR MD h1 h2
    simp only[Zr,Zw] at he
    obtain⟨rfl,rfl⟩:=he
    exact .cons (kW ho h.1 h1) (fS ho h.2 h2)
   ·simp at he
inductive E8 (Y:Ctx) (μ:Mu) (n:Nat):V→List Nat→Value→Prop
 | cell {c:V} {rs:List Nat} {val:Value} (h:JX Y μ n c rs val):E8 Y μ n c rs val
 | agg {cs:List V} {rs:List Nat} {vals:Array Value} (hc:cs.all V.gQ=true) (h:vL Y μ n cs rs vals.toList):E8 Y μ n (.agg cs) rs (.agg vals)
inductive qK (Y:Ctx) (μ:Mu) (n:Nat):List V→List Nat→List Value→Prop
 | nil:qK Y μ n [] [] []
 | cons {c:V} {rs rs':List Nat} {val:Value} {cs:List V} {vals:List Value} (h:E8 Y μ n c rs val) (hs:qK Y μ n cs rs' vals):qK Y μ n (c::cs) (rs++rs') (val::vals)
theorem qL {T:Nat→V} {O:Nat→Obj} {c c':V} {rs:List Nat} (he:bT n ⟨T,O⟩ c=some (c',rs)) (hc:c.aF=true):V.gQ c'=true:=by
 unfold bT at he
 split at he
 ·simp only at he
  split at he
  ·split at he
   ·split at he
    ·simp only[Zr,Zw] at he
     obtain⟨rfl,rfl⟩:=he;rfl
    ·split at he
     ·simp only[Zr,Zw] at he
      obtain⟨rfl,rfl⟩:=he;rfl
     ·simp only[Zr,Zw] at he
      obtain⟨rfl,rfl⟩:=he;rfl
   ·simp at he
  ·simp at he
 ·split at he
  ·simp only[Zr,Zw] at he
   obtain⟨rfl,rfl⟩:=he
   exact qJ hc
  ·simp at he
theorem jA {T:Nat→V} {O:Nat→Obj}: ∀ {cs b6:List V} {rs:List Nat},bK n ⟨T,O⟩ cs=some (b6,rs)→cs.all V.aF=true→
   b6.all V.gQ=true
 | [],b6,rs,he,_=>by simp[bK] at he;obtain⟨rfl,rfl⟩:=he;rfl
 | c::cs,b6,rs,he,hc=>by
   simp only[aad,Zt] at hc
   simp only[bK] at he
   split at he
   ·rename_i c1 r1 NR MD h1 h2
    simp only[Zr,Zw] at he
    obtain⟨rfl,rfl⟩:=he
    have i1:=qL h1 hc.1
    have i2:=jA h2 hc.2
    rw[aad,i2,aaV]
    exact i1
   ·simp at he
theorem vL.cA {cs:List V} {rs:List Nat} {vals:List Value} (h:vL Y μ n cs rs vals) (hp:V.al cs=true):ah Y μ cs vals∧rs=[]:=by
 induction h with
 | nil=>simp[ah]
 | cons h hs ih=>
   simp only[V.al,Zt] at hp
   obtain⟨i1,i2⟩:=ih hp.2
   cases h with
   | pure Bd hv=>simp only[ah];exact⟨⟨hv,i1⟩,by simpa using i2⟩
   | sl=>simp[V.aq] at hp
   | own=>simp[V.aq] at hp
theorem oG (ho:aP Y μ) {T:Nat→V} {v v':V} {rs:List Nat} {val:Value} (h:aj Y μ v val) (he:dg n ⟨T,μ.O⟩ v=some (v',rs)):E8 Y μ n v' rs val:=by
 unfold dg at he
 split at he
 ·rename_i hp
  simp only[Zr,Zw] at he
  obtain⟨rfl,rfl⟩:=he
  exact .cell (.pure hp h)
 ·split at he
  ·simp only[aj] at h
   obtain⟨h1,vs,rfl,h2⟩:=h
   split at he
   ·rename_i b6 rs' mD
    simp only[Zr,Zw] at he
    obtain⟨rfl,rfl⟩:=he
    exact .agg (jA mD h1) (fS ho h2 mD)
   ·simp at he
  ·simp only[aj] at h
   obtain⟨F,cv,rfl,h1,h2⟩:=h
   split at he
   ·rename_i b6 rs' mD
    split at he
    ·rename_i hp
     simp only[Zr,Zw] at he
     obtain⟨rfl,rfl⟩:=he
     obtain⟨k1,k2⟩:=(fS ho h2 mD).cA hp
     subst k2
     refine .cell (.pure (by simpa [V.aq] using hp) ?_)
     simp only[aj]
     exact⟨F,cv,rfl,h1,k1⟩
    ·simp at he
   ·simp at he
  ·exact .cell (kW ho h he)
theorem nb (ho:aP Y μ) {T:Nat→V}: ∀ {cs b6:List V} {rs:List Nat} {vals:List Value},ah Y μ cs vals→cF n ⟨T,μ.O⟩ cs=some (b6,rs)→qK Y μ n b6 rs vals
 | [],b6,rs,[],_,he=>by simp[cF] at he;obtain⟨rfl,rfl⟩:=he;exact .nil
 | [],_,_,_::_,h,_=>by simp[ah] at h
 | _::_,_,_,[],h,_=>by simp[ah] at h
 | c::cs,b6,rs,v::vs,h,he=>by
   simp only[ah] at h
   simp only[cF] at he
   split at he
   ·rename_i c1 r1 NR MD h1 h2
    simp only[Zr,Zw] at he
    obtain⟨rfl,rfl⟩:=he
    exact .cons (oG ho h.1 h1) (nb ho h.2 h2)
   ·simp at he
end
end Go.AM
namespace Go.AM
open Go Go.RowKit
def dz (φ:Nat→Row) (ws:List c9) (i:Nat):Row:=
 match ws with
 | []=> ⟨0,0,0⟩
 | w::ws=>if w.i=i then(match w.fresh with| none=>φ w.r| some _=> ⟨0,0,0⟩) else dz φ ws i
inductive sV (X:Ctx) (μ:Mu) (r0 i:Nat) (rs:List Nat) (ws:List c9):V→Value→Prop
 | plain {a:V} {v:Value} (hp:V.aq a=true) (hs:iu X μ rs a v):sV X μ r0 i rs ws a v
 | sl {r g off len:Nat} {es:List V} {v:Value} (hw: (⟨i,r,none⟩:c9) ∈ ws) (aZ: (μ.O r).es=some es) (eB: (μ.O r).fz=false) (bP: (μ.O r).gen=g) (ki:V.al es=true)
    (gY:off+len≤es.length) (hv:aj X μ (.sl r g off len) v):sV X μ r0 i rs ws (.msl (μ.O r).sz es off len) v
 | ptr {r g idx off:Nat} {es:List V} {v:Value} (hw: (⟨i,r,none⟩:c9) ∈ ws) (aZ: (μ.O r).es=some es) (eB: (μ.O r).fz=false) (bP: (μ.O r).gen=g) (ki:V.al es=true)
    (hv:aj X μ (.ptr r g idx off) v):sV X μ r0 i rs ws (.mptr (μ.O r).sz es idx off) v
 | fresh {sz:Nat} {v:Value} (hw: (⟨i,r0+i,some sz⟩:c9) ∈ ws) (bM:0 <sz) (hv: ∃a,v= .slice a 0 0):sV X μ r0 i rs ws (.msl sz [] 0 0) v
section
variable {X:Ctx} {μ:Mu} {r0:Nat}
theorem sV.more {i:Nat} {rs rs':List Nat} {ws yQ:List c9} {a:V} {v:Value} (h:sV X μ r0 i rs ws a v) (h1: ∀r ∈ rs,r ∈ rs') (h2: ∀w ∈ ws,w ∈ yQ):sV X μ r0 i rs' yQ a v:=by
 cases h with
 | plain hp hs=>exact .plain hp (hs.more h1)
 | sl hw a b c d e f=>exact .sl (h2 _ hw) a b c d e f
 | ptr hw a b c d f=>exact .ptr (h2 _ hw) a b c d f
 | fresh hw a b=>exact .fresh (h2 _ hw) a b
theorem jy.at {i:Nat} {au:List V} {vs:List Value} {rs:List Nat} {ws:List c9} (h:jy X μ r0 i au vs rs ws):
   au.length=vs.length∧(∀w ∈ ws,i≤w.i)∧(∀t a,au[t]? =some a→ ∃v,vs[t]? =some v∧sV X μ r0 (i+t) rs ws a v):=by
 induction h with
 | nil i=>simp
 | @plain i a v rs rs' au vs ws hp hs h ih=>
   obtain⟨i1,i2,i3⟩:=ih
   refine⟨by simp[i1],fun w hw=>by have:=i2 w hw;omega,fun t b hb=> ?_⟩
   cases t with
   | zero=>simp at hb;subst hb;exact⟨v,Zm,.plain hp (hs.more (by simp+contextual))⟩
   | succ t=>
     obtain⟨v',k1,k2⟩:=i3 t b (by simpa using hb)
     refine⟨v',by simpa using k1,?_⟩
     have e:i+(t+1)=i+1+t:=Zl
     rw[e];exact k2.more (by simp+contextual) (fun w hw=>hw)
 | @sl i r g off len es v rs au vs ws aZ eB bP ki gY hv h ih=>
   obtain⟨i1,i2,i3⟩:=ih
   refine⟨by simp[i1],fun w hw=> ?_,fun t b hb=> ?_⟩
   · rcases Zz.1 hw with rfl| hw
     ·exact Zy _
     ·have:=i2 w hw;omega
   · cases t with
     | zero=>simp at hb;subst hb;exact⟨v,Zm,.sl Zm aZ eB bP ki gY hv⟩
     | succ t=>
       obtain⟨v',k1,k2⟩:=i3 t b (by simpa using hb)
       refine⟨v',by simpa using k1,?_⟩
       have e:i+(t+1)=i+1+t:=Zl
       rw[e];exact k2.more (fun r hr=>hr) (fun w hw=>by simp[hw])
 | @ptr i r g idx off es v rs au vs ws aZ eB bP ki hv h ih=>
   obtain⟨i1,i2,i3⟩:=ih
   refine⟨by simp[i1],fun w hw=> ?_,fun t b hb=> ?_⟩
   · rcases Zz.1 hw with rfl| hw
     ·exact Zy _
     ·have:=i2 w hw;omega
   · cases t with
     | zero=>simp at hb;subst hb;exact⟨v,Zm,.ptr Zm aZ eB bP ki hv⟩
     | succ t=>
       obtain⟨v',k1,k2⟩:=i3 t b (by simpa using hb)
       refine⟨v',by simpa using k1,?_⟩
       have e:i+(t+1)=i+1+t:=Zl
       rw[e];exact k2.more (fun r hr=>hr) (fun w hw=>by simp[hw])
 | @fresh i sz v rs au vs ws bM hv h ih=>
   obtain⟨i1,i2,i3⟩:=ih
   refine⟨by simp[i1],fun w hw=> ?_,fun t b hb=> ?_⟩
   · rcases Zz.1 hw with rfl| hw
     ·exact Zy _
     ·have:=i2 w hw;omega
   · cases t with
     | zero=>simp at hb;subst hb;exact⟨v,Zm,.fresh Zm bM hv⟩
     | succ t=>
       obtain⟨v',k1,k2⟩:=i3 t b (by simpa using hb)
       refine⟨v',by simpa using k1,?_⟩
       have e:i+(t+1)=i+1+t:=Zl
       rw[e];exact k2.more (fun r hr=>hr) (fun w hw=>by simp[hw])
inductive FE:Nat→List c9→Prop
 | nil (i:Nat):FE i []
 | cons {i:Nat} {w:c9} {ws:List c9} (h:i≤w.i) (hs:FE (w.i+1) ws):FE i (w::ws)
theorem FE.le {i j:Nat} {ws:List c9} (h:FE j ws) (Va:i≤j):FE i ws:=by
 cases h with
 | nil=>exact .nil _
 | cons h hs=>exact .cons Zl hs
theorem FE.mem {i:Nat} {ws:List c9} (h:FE i ws): ∀w ∈ ws,i≤w.i:=by
 induction h with
 | nil=>simp
 | cons h hs ih=>
   intro w hw
   rcases Zz.1 hw with rfl| hw
   ·exact h
   ·have:=ih w hw;omega
theorem jy.inc {i:Nat} {au:List V} {vs:List Value} {rs:List Nat} {ws:List c9} (h:jy X μ r0 i au vs rs ws):FE i ws:=by
 induction h with
 | nil i=>exact .nil i
 | plain hp hs h ih=>exact ih.le Zl
 | sl _ _ _ _ _ _ h ih=>exact .cons Zm ih
 | ptr _ _ _ _ _ h ih=>exact .cons Zm ih
 | fresh _ _ h ih=>exact .cons Zm ih
theorem gD {φ:Nat→Row} {i:Nat} {ws:List c9} (h:FE i ws): ∀w ∈ ws,dz φ ws w.i=(match w.fresh with| none=>φ w.r| some _=> ⟨0,0,0⟩):=by
 induction h with
 | nil=>simp
 | @cons i w ws h hs ih=>
   intro w' hw
   rcases Zz.1 hw with rfl| hw
   ·simp[dz]
   ·have:=hs.mem w' hw
    rw[dz,if_neg Zl]
    exact ih w' hw
theorem FE.uniq {i:Nat} {ws:List c9} (h:FE i ws): ∀w ∈ ws,∀w' ∈ ws,w.i=w'.i→w=w':=by
 induction h with
 | nil=>simp
 | @cons i w ws h hs ih=>
   intro a ha b hb e
   rcases Zz.1 ha with ha| ha<;>rcases Zz.1 hb with hb| hb
   ·rw[ha,hb]
   ·have:=hs.mem b hb;subst ha;omega
   ·have:=hs.mem a ha;subst hb;omega
   ·exact ih a ha b hb e
theorem oH: ∀ {ws:List c9},distinct (ws.map (·.r))=true→ ∀w ∈ ws,∀w' ∈ ws,w.r=w'.r→w=w'
 | [],_,_,h,_,_,_=>by simp at h
 | w::ws,hd,a,ha,b,hb,e=>by
   simp only[List.map_cons,distinct,Zt,Z4,aaG,decide_eq_false_iff_not] at hd
   rcases Zz.1 ha with ha| ha<;>rcases Zz.1 hb with hb| hb
   ·rw[ha,hb]
   ·exact absurd (ZJ.2 ⟨b,hb,by rw[←e,ha]⟩) hd.1
   ·exact absurd (ZJ.2 ⟨a,ha,by rw[e,hb]⟩) hd.1
   ·exact oH hd.2 a ha b hb e
def cp (X:Ctx) (μ:Mu) (rs:List Nat) (ws:List c9) (b:Nat):Prop:=
 X.KI b∨ ∃r,r ∉ rs∧r ∉ ws.map (·.r)∧(μ.O r).es.isSome=true∧(μ.O r).fz=false∧(μ.φ r).cap≠0∧(μ.φ r).bB=b
theorem jb {au:List V} {vals:List Value} {rs:List Nat} {ws:List c9} (hp:jy X μ r0 0 au vals rs ws) (j:Nat):
   (enter au).O j=bk∨
   (∃r es,(⟨j,r,none⟩:c9) ∈ ws∧(μ.O r).es=some es∧(μ.O r).fz=false∧V.al es=true∧((enter au).O j).gen=0∧((enter au).O j).sz=(μ.O r).sz∧((enter au).O j).fz=false∧((enter au).O j).es=some es∧dz μ.φ ws j=μ.φ r)∨
   (∃sz,(⟨j,r0+j,some sz⟩:c9) ∈ ws∧0 <sz∧((enter au).O j).gen=0∧((enter au).O j).sz=sz∧((enter au).O j).fz=false∧((enter au).O j).es=some []∧dz μ.φ ws j=⟨0,0,0⟩):=by
 obtain⟨hl,-,jS⟩:=hp.at
 have hi:=hp.inc
 cases ha:au[j]? with
 | none=>left;simp[enter,ha]
 | some a=>
   obtain⟨v,hv,hA⟩:=jS j a ha
   simp only[aaa] at hA
   cases hA with
   | plain ki hs=>
     left
     cases a<;>simp[V.aq] at ki<;>simp[enter,ha]
   | @sl r g off len es v hw aZ eB bP ki gY yT=>
     right;left
     exact⟨r,es,hw,aZ,eB,ki,by simp[enter,ha],by simp[enter,ha],by simp[enter,ha],by simp[enter,ha],by have:=gD (φ:=μ.φ) hi _ hw;simpa using this⟩
   | @ptr r g idx off es v hw aZ eB bP ki yT=>
     right;left
     exact⟨r,es,hw,aZ,eB,ki,by simp[enter,ha],by simp[enter,ha],by simp[enter,ha],by simp[enter,ha],by have:=gD (φ:=μ.φ) hi _ hw;simpa using this⟩
   | @fresh sz v hw bM yT=>
     right;right
     exact⟨sz,hw,bM,by simp[enter,ha],by simp[enter,ha],by simp[enter,ha],by simp[enter,ha],by have:=gD (φ:=μ.φ) hi _ hw;simpa using this⟩
theorem rV {au:List V} {vals:List Value} {rs:List Nat} {ws:List c9} (hp:jy X μ r0 0 au vals rs ws) {b:Nat} (h: (⟨μ.w,dz μ.φ ws,(enter au).O⟩:Mu).own b):
  ∃i r,(⟨i,r,none⟩:c9) ∈ ws∧(μ.O r).es.isSome=true∧(μ.O r).fz=false∧(μ.φ r).cap≠0∧(μ.φ r).bB=b:=by
 obtain⟨j,h1,h2,h3,h4⟩:=h
 simp only at h1 h2 h3 h4
 rcases jb hp j with h| ⟨r,es,k1,k2,k3,k4,k5,k6,k7,k8,k9⟩ | ⟨sz,k1,k2,k3,k4,k5,k6,k7⟩
 ·rw[h] at h1;simp[bk] at h1
 ·rw[k9] at h3 h4
  exact⟨j,r,k1,by simp[k2],k3,h3,h4⟩
 ·rw[k7] at h3;simp at h3
theorem E9 {au:List V} {vals:List Value} {rs:List Nat} {ws:List c9} (ho:aP X μ) (hp:jy X μ r0 0 au vals rs ws) (pH:apart rs (ws.map (·.r))=true) {b:Nat}
  (h:Own ⟨X.toTrEnv,cp X μ rs ws,X.tok⟩ ⟨μ.w,dz μ.φ ws,(enter au).O⟩ b):
  Own X μ b∧ ∀r ∈ rs,(μ.O r).es.isSome=true→(μ.φ r).cap≠0→b≠(μ.φ r).bB:=by
 rcases h with h| h
 ·obtain⟨i,r,h1,h2,h3,h4,h5⟩:=rV hp h
  refine⟨.inl ⟨r,h2,h3,h4,h5⟩,fun r' sL k1 k2 e=> ?_⟩
  have bQ:r≠r':=by
   rintro rfl
   have:=Zx.1 pH r (ZJ.2 ⟨_,h1,rfl⟩)
   simp[sL] at this
  exact ho.inj r r' bQ h2 k1 h4 k2 (h5.trans e)
 ·rcases h with h| ⟨r,h0,h1,h2,h3,h4,h5⟩
  ·refine⟨.inr h,fun r' sL k1 k2 e=>ho.qY r' k1 k2 (e ▸ h)⟩
  ·refine⟨.inl ⟨r,h2,h3,h4,h5⟩,fun r' sL k1 k2 e=> ?_⟩
   have bQ:r≠r':=fun e=>h0 (e ▸ sL)
   exact ho.inj r r' bQ h2 k1 h4 k2 (h5.trans e)
theorem sW {au:List V} {vals:List Value} {rs:List Nat} {ws:List c9} (ho:aP X μ) (hp:jy X μ r0 0 au vals rs ws) (pH:apart rs (ws.map (·.r))=true) (hd:distinct (ws.map (·.r))=true):
  vals.length=au.length∧(∀t v,vals[t]? =some v→aj ⟨X.toTrEnv,cp X μ rs ws,X.tok⟩ ⟨μ.w,dz μ.φ ws,(enter au).O⟩ ((enter au).T t) v)∧
    aP ⟨X.toTrEnv,cp X μ rs ws,X.tok⟩ ⟨μ.w,dz μ.φ ws,(enter au).O⟩:=by
 have fN:=fun b=>E9 (b:=b) ho hp pH
 obtain⟨hl,-,jS⟩:=hp.at
 have hi:=hp.inc
 refine⟨hl.symm,fun t v hv=> ?_,?_⟩
 ·have ha:t<au.length:=by rw[hl];exact(Zs.1 hv).1
  obtain⟨v',yk,hA⟩:=jS t au[t] (Zv ha)
  rw[hv] at yk;injection yk with yk;subst yk
  have AK:au[t]? =some au[t]:=Zv ha
  simp only[aaa] at hA
  generalize VG:au[t]=a at hA AK
  cases hA with
  | plain ki hs=>
    have: (enter au).T t=a:=by cases a<;>simp[V.aq] at ki<;>simp[enter,AK]
    rw[this]
    exact hs _ _ rfl fN
  | @sl r g off len es v hw aZ eB bP ki gY yT=>
    have e1: (enter au).T t= .sl t 0 off len:=by simp[enter,AK]
    have e2: ((enter au).O t).gen=0∧((enter au).O t).sz=(μ.O r).sz:=by simp[enter,AK]
    have e3:dz μ.φ ws t=μ.φ r:=by have:=gD (φ:=μ.φ) hi _ hw;simpa using this
    rw[e1]
    simp only[aj] at yT ⊢
    obtain⟨a,cap,rfl,q1,q2,q3⟩:=yT
    refine⟨a,cap,rfl,q1,aaj _,fun _=> ?_⟩
    rw[e2.2,e3];exact q3 bP
  | @ptr r g idx off es v hw aZ eB bP ki yT=>
    have e1: (enter au).T t= .ptr t 0 idx off:=by simp[enter,AK]
    have e2: ((enter au).O t).gen=0∧((enter au).O t).sz=(μ.O r).sz:=by simp[enter,AK]
    have e3:dz μ.φ ws t=μ.φ r:=by have:=gD (φ:=μ.φ) hi _ hw;simpa using this
    rw[e1]
    simp only[aj] at yT ⊢
    obtain⟨a,rfl,q2,q3⟩:=yT
    refine⟨a,rfl,aaj _,fun _=> ?_⟩
    rw[e2.2,e3];exact q3 bP
  | @fresh sz v hw bM yT=>
    have e1: (enter au).T t= .sl t 0 0 0:=by simp[enter,AK]
    have e3:dz μ.φ ws t=⟨0,0,0⟩:=by have:=gD (φ:=μ.φ) hi _ hw;simpa using this
    rw[e1]
    obtain⟨a,rfl⟩:=yT
    simp only[aj]
    exact⟨a,0,rfl,Zy _,aaj _,fun _=> ⟨by simp[enter,AK,bM],by rw[e3],.inl rfl⟩⟩
 ·refine⟨fun j es aZ=> ?_,fun j1 j2 bQ h1 h2 h3 h4=> ?_,fun j h1 h2 hb=> ?_,fun b hb=> ?_⟩
  · rcases jb hp j with h| ⟨r,es',k1,k2,k3,k4,k5,k6,k7,k8,k9⟩ | ⟨sz,k1,k2,k3,k4,k5,k6,k7⟩
    ·simp only[h,bk] at aZ;simp at aZ
    ·simp only at aZ
     rw[k8] at aZ;injection aZ with aZ;subst aZ
     rcases ho.ok r es' k2 with⟨q1,q2,q3,q4⟩ | ⟨m1,m2,ob,m3,m4⟩
     ·refine .inl ?_
      unfold jX
      simp only[k6,k9]
      refine⟨q1,q2,q3,q4.imp id ?_⟩
      rintro⟨c,T,vs,p1,p2,p3,p4⟩
      exact⟨c,T,vs,p1,p2,bg (X:=X) (μ:=μ) (μ':=⟨μ.w,dz μ.φ ws,(enter au).O⟩) rfl (fun b hb=> (fN b hb).1) k4 p3,p4⟩
     ·refine .inr ?_
      unfold qx
      simp only[k6,k9]
      refine⟨m1,m2,ob,m3,?_⟩
      rcases m4 with⟨ents,clock,e1,e2,e3⟩ | m4| ⟨mo,since,kp,e1,e2,e3⟩
      ·exact .inl ⟨ents,clock,e1,bg (X:=X) (μ:=μ) (μ':=⟨μ.w,dz μ.φ ws,(enter au).O⟩) rfl (fun b hb=> (fN b hb).1) k4 e2,e3⟩
      ·exact .inr (.inl m4)
      ·  subst e2
         refine .inr (.inr ⟨mo,since,kp,e1,rfl,e3.imp id ?_⟩)
         rintro⟨m,ents,l1,l2,l3,l4,l5,l6⟩
         exact⟨m,ents,l1,fun h=>l2 (fN m h).1,l3,l4,l5,bg (X:=X) (μ:=μ) (μ':=⟨μ.w,dz μ.φ ws,(enter au).O⟩) rfl (fun b hb=> (fN b hb).1) (by simpa [V.al,V.aq] using k4) l6⟩
    ·simp only at aZ
     rw[k6] at aZ;injection aZ with aZ;subst aZ
     refine .inl ?_
     unfold jX
     simp only[k4,k7]
     exact⟨k2,Zm,rfl,Zm⟩
  · simp only at h1 h2 h3 h4 ⊢
    rcases jb hp j1 with h| ⟨r,es',k1,k2,k3,k4,k5,k6,k7,k8,k9⟩ | ⟨sz,k1,k2,k3,k4,k5,k6,k7⟩
    ·rw[h] at h1;simp[bk] at h1
    ·rcases jb hp j2 with h| ⟨r',ND,l1,l2,l3,l4,l5,l6,l7,l8,l9⟩ | ⟨sz,l1,l2,l3,l4,l5,l6,l7⟩
     ·rw[h] at h2;simp[bk] at h2
     ·rw[k9] at h3 ⊢
      rw[l9] at h4 ⊢
      refine ho.inj r r' (fun e=> ?_) (by simp[k2]) (by simp[l2]) h3 h4
      have:=oH hd _ k1 _ l1 e
      injection this with e1;exact bQ e1
     ·rw[l7] at h4;simp at h4
    ·rw[k7] at h3;simp at h3
  · simp only at h1 h2 hb
    rcases jb hp j with h| ⟨r,es',k1,k2,k3,k4,k5,k6,k7,k8,k9⟩ | ⟨sz,k1,k2,k3,k4,k5,k6,k7⟩
    ·rw[h] at h1;simp[bk] at h1
    ·rw[k9] at h2 hb
     rcases hb with hb| ⟨r',g0,g1,g2,g3,g4,g5⟩
     ·exact ho.qY r (by simp[k2]) h2 hb
     ·have bQ:r'≠r:=fun e=>g1 (ZJ.2 ⟨_,k1,e.symm⟩)
      exact ho.inj r' r bQ g2 (by simp[k2]) g4 h2 g5
    ·rw[k7] at h2;simp at h2
  · rcases hb with hb| ⟨r',g0,g1,g2,g3,g4,g5⟩
    ·exact ho.blt b hb
    ·obtain⟨es',he⟩:=ZA.1 g2
     rw[←g5];exact ez.bB (ho.ok r' es' he) g4
end
end Go.AM
namespace Go.AM
open Go Go.RowKit
section
variable {X X':Ctx} {μ μ':Mu}
mutual
theorem weaken (hX:X'.toTrEnv=X.toTrEnv) (hk:X'.tok=X.tok) (hw:μ'.w=μ.w) (hφ:μ'.φ=μ.φ) (hO: ∀r,(μ'.O r).gen=(μ.O r).gen∧(μ'.O r).sz=(μ.O r).sz) (ho: ∀b,Own X' μ' b→Own X μ b): ∀ {x:V} {v:Value},aj X μ x v→aj X' μ' x v
 | .bool _,_,h| .int ..,_,h| .float _,_,h| .str _,_,h| .nilp,_,h| .nilfn,_,h| .nili,_,h| .nils,_,h=>by simpa [aj] using h
 | .any,_,_=>by simp[aj]
 | .own ..,_,h| .msl ..,_,h| .mptr ..,_,h=>by simp[aj] at h
 | .agg cs,_,h=>by
   simp only[aj] at h ⊢
   obtain⟨h1,vs,rfl,h2⟩:=h
   exact⟨h1,vs,rfl,j7 hX hk hw hφ hO ho h2⟩
 | .tuple cs,_,h=>by
   simp only[aj] at h ⊢
   obtain⟨vs,rfl,h2⟩:=h
   exact⟨vs,rfl,j7 hX hk hw hφ hO ho h2⟩
 | .bfn f cs,_,h=>by
   simp only[aj] at h ⊢
   obtain⟨F,cv,rfl,h1,h2⟩:=h
   exact⟨F,cv,rfl,by rw[hX];exact h1,j7 hX hk hw hφ hO ho h2⟩
 | .fn f cs,_,h=>by
   simp only[aj] at h ⊢
   obtain⟨F,cv,rfl,h1,h2⟩:=h
   exact⟨F,cv,rfl,by rw[hX];exact h1,j7 hX hk hw hφ hO ho h2⟩
 | .iface t x,_,h=>by
   simp only[aj] at h ⊢
   obtain⟨F,y,rfl,h1,h2⟩:=h
   exact⟨F,y,rfl,by rw[hX];exact h1,weaken hX hk hw hφ hO ho h2⟩
 | .lit sz xs,_,h=>by
   simp only[aj] at h ⊢
   obtain⟨h0,jJ,a,cap,vs,rfl,h1,h2,h3⟩:=h
   refine⟨h0,jJ,a,cap,vs,rfl,h1,j7 hX hk hw hφ hO ho h2,h3.imp id ?_⟩
   rintro⟨b,o,rfl,hb,hs,hr⟩
   exact⟨b,o,rfl,fun hh=>hb (ho b hh),by rw[hw];exact hs,by rw[hw];exact hr⟩
 | .sl r g off len,_,h=>by
   simp only[aj] at h ⊢
   rw[hφ,(hO r).1,(hO r).2];exact h
 | .ptr r g idx off,_,h=>by
   simp only[aj] at h ⊢
   rw[hφ,(hO r).1,(hO r).2];exact h
 | .litk sz xs,_,h=>by
   simp only[aj] at h ⊢
   obtain⟨h0,jJ,a,cap,vs,rfl,h1,h2,h3⟩:=h
   refine⟨h0,jJ,a,cap,vs,rfl,h1,j7 hX hk hw hφ hO ho h2,h3.imp id ?_⟩
   rintro⟨rfl,hb,hs,hr⟩
   rw[hk]
   exact⟨rfl,fun hh=>hb (ho _ hh),by rw[hw];exact hs,by rw[hw];exact hr⟩
 | .epk i sz e off,_,h=>by
   simp only[aj] at h ⊢
   obtain⟨h0,jJ,x,rfl,hb,hs,h1,hr⟩:=h
   rw[hk]
   exact⟨h0,jJ,x,rfl,fun hh=>hb (ho _ hh),by rw[hw];exact hs,weaken hX hk hw hφ hO ho h1,by rw[hw];exact hr⟩
 | .eptr e off,_,h=>by
   simp only[aj] at h ⊢
   obtain⟨h0,jJ,b,o,sz,x,rfl,hb,hs,h1,hr⟩:=h
   exact⟨h0,jJ,b,o,sz,x,rfl,fun hh=>hb (ho b hh),by rw[hw];exact hs,weaken hX hk hw hφ hO ho h1,by rw[hw];exact hr⟩
 | .mp r g,_,h| .it r g,_,h=>by
   simp only[aj] at h ⊢
   rw[hφ,(hO r).1,(hO r).2];exact h
 | .mlit es,_,h=>by
   simp only[aj] at h ⊢
   obtain⟨h0,h⟩:=h
   refine⟨h0,h.imp id ?_⟩
   rintro⟨a,ents,clock,rfl,hb,hs,h1,h2⟩
   exact⟨a,ents,clock,rfl,fun hh=>hb (ho a hh),by rw[hw];exact hs,by rw[hw];exact h1,j7 hX hk hw hφ hO ho h2⟩
theorem j7 (hX:X'.toTrEnv=X.toTrEnv) (hk:X'.tok=X.tok) (hw:μ'.w=μ.w) (hφ:μ'.φ=μ.φ) (hO: ∀r,(μ'.O r).gen=(μ.O r).gen∧(μ'.O r).sz=(μ.O r).sz) (ho: ∀b,Own X' μ' b→Own X μ b): ∀ {xs:List V} {vs:List Value},ah X μ xs vs→ah X' μ' xs vs
 | [],[],_=>by simp[ah]
 | [],_::_,h=>by simp[ah] at h
 | _::_,[],h=>by simp[ah] at h
 | x::xs,v::vs,h=>by
   simp only[ah] at h ⊢
   exact⟨weaken hX hk hw hφ hO ho h.1,j7 hX hk hw hφ hO ho h.2⟩
end
mutual
theorem iw (hX:X'.toTrEnv=X.toTrEnv): ∀ {x:V} {v:Value},V.isScalar x=true→aj X μ x v→aj X' μ' x v
 | .bool _,_,_,h| .int ..,_,_,h| .float _,_,_,h| .str _,_,_,h| .nilp,_,_,h| .nilfn,_,_,h| .nili,_,_,h| .nils,_,_,h=>by simpa [aj] using h
 | .any,_,hp,_| .own ..,_,hp,_| .msl ..,_,hp,_| .mptr ..,_,hp,_| .sl ..,_,hp,_| .ptr ..,_,hp,_| .lit ..,_,hp,_| .eptr ..,_,hp,_| .litk ..,_,hp,_| .epk ..,_,hp,_| .mp ..,_,hp,_| .it ..,_,hp,_| .mlit ..,_,hp,_| .bfn ..,_,hp,_| .fn ..,_,hp,_| .iface ..,_,hp,_=>by simp[V.isScalar] at hp
 | .agg cs,_,hp,h=>by
   simp only[aj] at h ⊢
   obtain⟨h1,vs,rfl,h2⟩:=h
   exact⟨h1,vs,rfl,dA hX (by simpa [V.isScalar] using hp) h2⟩
 | .tuple cs,_,hp,h=>by
   simp only[aj] at h ⊢
   obtain⟨vs,rfl,h2⟩:=h
   exact⟨vs,rfl,dA hX (by simpa [V.isScalar] using hp) h2⟩
theorem dA (hX:X'.toTrEnv=X.toTrEnv): ∀ {xs:List V} {vs:List Value},V.aR xs=true→ah X μ xs vs→ah X' μ' xs vs
 | [],[],_,_=>by simp[ah]
 | [],_::_,_,h=>by simp[ah] at h
 | _::_,[],_,h=>by simp[ah] at h
 | x::xs,v::vs,hp,h=>by
   simp only[ah] at h ⊢
   simp only[V.aR,Zt] at hp
   exact⟨iw hX hp.1 h.1,dA hX hp.2 h.2⟩
end
end
structure CM (Y:Ctx) (μf μ1:Mu) (r j:Nat) (row:Row) (o:Obj):Prop where
 es: ∃es,o.es=some es∧V.al es=true∧0 <o.sz∧es.length≤row.cap∧es.all (aJ · o.sz)=true∧
  (row.cap=0∨ ∃c T vs,μ1.w.heap[row.bB]? =some (.cells c T (0,0))∧row.base+row.cap*o.sz≤c.size∧ah Y μ1 es vs∧cM μ1.w row.bB row.base o.sz vs)
 live: (μ1.O j).es.isSome=true∧(μ1.O j).fz=false
 bB:row.cap≠0→(μ1.φ j).cap≠0∧row.bB=(μ1.φ j).bB
 gen: (μf.O r).gen<o.gen∨(o.gen=(μf.O r).gen∧row=μf.φ r∧o.sz=(μf.O r).sz)
 sc: (∀es,(μ1.O j).es=some es→V.aR es=true)→ ∀es,o.es=some es→V.aR es=true
structure eh (Y:Ctx) (μf μ1:Mu) (U:Nat→Prop) (A:Nat→Option Nat) (φ:Nat→Row) (O:Nat→Obj):Prop where
 AL: ∀r,A r=none→O r=μf.O r∧φ r=μf.φ r
 w8: ∀r j,A r=some j→CM Y μf μ1 r j (φ r) (O r)∧U j
 inj: ∀r1 r2 j,A r1=some j→A r2=some j→r1=r2
def c7 (φ:Nat→Row) (O:Nat→Obj) (φ':Nat→Row) (O':Nat→Obj):Prop:=
 ∀r,(O r).gen≤(O' r).gen∧((O' r).gen=(O r).gen→φ' r=φ r∧(O' r).sz=(O r).sz)
theorem c7.refl (φ:Nat→Row) (O:Nat→Obj):c7 φ O φ O:=fun _=> ⟨Zy _,fun _=> ⟨rfl,rfl⟩⟩
theorem c7.trans {φ φ' φ'':Nat→Row} {O O' VV:Nat→Obj} (h:c7 φ O φ' O') (k:c7 φ' O' φ'' VV):c7 φ O φ'' VV:=fun r=>by
 obtain⟨h1,h2⟩:=h r
 obtain⟨k1,k2⟩:=k r
 refine⟨Z1 h1 k1,fun e=> ?_⟩
 obtain⟨a1,a2⟩:=h2 Zl
 obtain⟨b1,b2⟩:=k2 Zl
 exact⟨b1.trans a1,b2.trans a2⟩
def ma (μ1:Mu) (φ:Nat→Row) (O:Nat→Obj) (i r g:Nat):Prop:=g≤(O r).gen∧((O r).gen=g→φ r=μ1.φ i∧(O r).sz=(μ1.O i).sz)
theorem ma.mono {μ1:Mu} {φ φ':Nat→Row} {O O':Nat→Obj} {i r g:Nat} (h:ma μ1 φ O i r g) (m:c7 φ O φ' O'):ma μ1 φ' O' i r g:=by
 obtain⟨m1,m2⟩:=m r
 refine⟨Z1 h.1 m1,fun e=> ?_⟩
 have:=h.1
 obtain⟨a1,a2⟩:=m2 Zl
 obtain⟨b1,b2⟩:=h.2 Zl
 exact⟨a1.trans b1,a2.trans b2⟩
theorem eh.take {Y:Ctx} {μf μ1:Mu} {U U':Nat→Prop} {A:Nat→Option Nat} {φ:Nat→Row} {O:Nat→Obj} (h:eh Y μf μ1 U A φ O) {r j:Nat} {row:Row} {o:Obj} (hj: ¬U j) (hU: ∀i,U i→U' i) (X4:U' j)
  (ht:CM Y μf μ1 r j row o):eh Y μf μ1 U' (cC A r (some j)) (cC φ r row) (cC O r o) where
 AL:=fun r' e=>by
  by_cases e':r'=r
  ·subst e';simp[an] at e
  ·rw[aG _ _ e'] at e ⊢;rw[aG _ _ e'];exact h.AL r' e
 w8:=fun r' j' e=>by
  by_cases e':r'=r
  ·subst e';simp only[an] at e ⊢;injection e with e;subst e;exact⟨ht,X4⟩
  ·rw[aG _ _ e'] at e ⊢;rw[aG _ _ e']
   obtain⟨k1,k2⟩:=h.w8 r' j' e
   exact⟨k1,hU _ k2⟩
 inj:=fun r1 r2 j' e1 e2=>by
  by_cases q1:r1=r<;>by_cases q2:r2=r
  ·rw[q1,q2]
  ·subst q1
   simp only[an] at e1;injection e1 with e1;subst e1
   rw[aG _ _ q2] at e2
   exact absurd (h.w8 r2 _ e2).2 hj
  ·subst q2
   simp only[an] at e2;injection e2 with e2;subst e2
   rw[aG _ _ q1] at e1
   exact absurd (h.w8 r1 _ e1).2 hj
  ·rw[aG _ _ q1] at e1
   rw[aG _ _ q2] at e2
   exact h.inj r1 r2 j' e1 e2
theorem c7.cC {φ:Nat→Row} {O:Nat→Obj} {r:Nat} {row:Row} {o:Obj} (h: (O r).gen<o.gen∨(o.gen=(O r).gen∧row=φ r∧o.sz=(O r).sz)):c7 φ O (cC φ r row) (cC O r o):=fun r'=>by
 by_cases e:r'=r
 ·subst e
  simp only[an]
  rcases h with h| ⟨h1,h2,h3⟩
  ·exact⟨Zl,fun e=>Zl⟩
  ·exact⟨Zl,fun _=> ⟨h2,h3⟩⟩
 ·simp[aG _ _ e]
end Go.AM
namespace Go.AM
open Go Go.RowKit
section
variable {X Y:Ctx} {μ μf μ1:Mu} {r0:Nat} {C:aQ} {T:Nat→V}
theorem pB (h1:aP Y μ1) {r i:Nat} {es:List V} {o:Obj} (h0:0 < (μ1.O i).sz) (aZ: (μ1.O i).es=some es) (eB: (μ1.O i).fz=false) (hp:V.al es=true) (ho:o.es=some es) (bM:o.sz=(μ1.O i).sz)
  (hg: (μf.O r).gen<o.gen∨(o.gen=(μf.O r).gen∧μ1.φ i=μf.φ r∧o.sz=(μf.O r).sz)):CM Y μf μ1 r i (μ1.φ i) o:=by
 obtain⟨q1,q2,q3,q4⟩:=h1.row i es aZ h0
 refine⟨⟨es,ho,hp,by rw[bM];exact q1,q2,by rw[bM];exact q3,?_⟩,⟨by simp[aZ],eB⟩,fun hc=> ⟨hc,rfl⟩,hg,fun hs es' he=> ?_⟩
 ·rw[bM];exact q4
 ·rw[ho] at he;injection he with he;subst he;exact hs _ aZ
theorem iW {O:Nat→Obj} {i sz off len:Nat} {kp:List V} {au:List V} {outs:List (Nat×List V)} (h:bS O i (.msl sz kp off len::au)=some outs):
  ∃es jB,(O i).es=some es∧bS O (i+1) au=some jB∧(O i).fz=false∧(O i).sz=sz∧V.al es=true∧outs=((O i).gen,es)::jB:=by
 simp only[bS] at h
 split at h
 ·rename_i es jB h1 h2
  split at h
  ·rename_i hc
   injection h with h
   exact⟨es,jB,h1,h2,hc.1,hc.2.1,hc.2.2,h.symm⟩
  ·simp at h
 ·simp at h
theorem oI {O:Nat→Obj} {i sz off len:Nat} {kp:List V} {au:List V} {outs:List (Nat×List V)} (h:bS O i (.mptr sz kp off len::au)=some outs):
  ∃es jB,(O i).es=some es∧bS O (i+1) au=some jB∧(O i).fz=false∧(O i).sz=sz∧V.al es=true∧outs=((O i).gen,es)::jB:=by
 simp only[bS] at h
 split at h
 ·rename_i es jB h1 h2
  split at h
  ·rename_i hc
   injection h with h
   exact⟨es,jB,h1,h2,hc.1,hc.2.1,hc.2.2,h.symm⟩
  ·simp at h
 ·simp at h
theorem nc {O:Nat→Obj} {i:Nat} {a:V} {au:List V} (h:V.aq a=true):bS O i (a::au)=bS O (i+1) au:=by
 cases a<;>simp[V.aq] at h<;>rfl
theorem oJ (h1:aP Y μ1) {w0:List c9} (cE: ∀w ∈ w0,w.fresh=none→(μ1.O w.i).gen=0→μ1.φ w.i=μ.φ w.r) (hφ:μf.φ=μ.φ) (K1: ∀w ∈ w0,μf.O w.r=μ.O w.r) {S:Nat→Prop} (hS: ∀w ∈ w0,S w.i):
   ∀ {i:Nat} {au:List V} {vs:List Value} {rs:List Nat} {ws:List c9},jy X μ r0 i au vs rs ws→ ∀ {outs:List (Nat×List V)} {A:Nat→Option Nat} {φ:Nat→Row} {O:Nat→Obj} {k:List (Nat×Nat×Nat)→Act} {p:V×St},
    bS μ1.O i au=some outs→eh Y μf μ1 (fun j=>j<i∧S j) A φ O→(∀w ∈ ws,w ∈ w0)→(∀w ∈ ws,A w.r=none)→distinct (ws.map (·.r))=true→(dE ws outs k).run C ⟨T,O⟩=some p→
    ∃A' φ' O' gs,(k gs).run C ⟨T,O'⟩=some p∧eh Y μf μ1 (fun j=>j<i+au.length∧S j) A' φ' O'∧c7 φ O φ' O'∧(∀w ∈ ws,A' w.r≠none)∧(∀r,A r≠none→A' r≠none)∧
       ∀x ∈ gs,ma μ1 φ' O' x.1 x.2.1 x.2.2:=by
 intro i au vs rs ws hp
 induction hp with
 | nil i=>
   intro outs A φ O k p ho ht _ _ _ ag
   simp[bS] at ho;subst ho
   exact⟨A,φ,O,[],ag,by simpa using ht,c7.refl _ _,Zm,fun _ h=>h,Zm⟩
 | @plain i a v rs rs' au vs ws ki hs h ih=>
   intro outs A φ O k p ho ht hw hA hd ag
   rw[nc ki] at ho
   have nW:eh Y μf μ1 (fun j=>j<i+1∧S j) A φ O:=⟨ht.AL,fun r j e=> ⟨(ht.w8 r j e).1,⟨by have:=(ht.w8 r j e).2.1;omega,(ht.w8 r j e).2.2⟩⟩,ht.inj⟩
   obtain⟨A',φ',O',gs,k1,k2,k3,k4,k5,k6⟩:=ih ho nW hw hA hd ag
   refine⟨A',φ',O',gs,k1,?_,k3,k4,k5,k6⟩
   have e:i+(a::au).length=i+1+au.length:=by simp;omega
   rw[e];exact k2
 | @sl i r g off len kp v rs au vs ws aZ eB bP ki gY hv h ih=>
   intro outs A φ O k p ho ht hw hA hd ag
   obtain⟨es,jB,o1,o2,o3,o4,o5,rfl⟩:=iW ho
   simp only[dE,Act.run] at ag
   have K2:=hA ⟨i,r,none⟩ Zm
   simp only at K2
   obtain⟨n1,n2⟩:=ht.AL r K2
   have hOr:μf.O r=μ.O r:=K1 ⟨i,r,none⟩ (hw _ Zm)
   have vb: (μf.O r).gen< (O r).gen+(μ1.O i).gen∨((O r).gen+(μ1.O i).gen=(μf.O r).gen∧μ1.φ i=μf.φ r∧(O r).sz=(μf.O r).sz):=by
    rw[n1]
    by_cases hz: (μ1.O i).gen=0
    ·  right;refine⟨Zl,?_,rfl⟩
       rw[hφ];exact cE ⟨i,r,none⟩ (hw _ Zm) rfl hz
    ·left;omega
   have GF:CM Y μf μ1 r i (μ1.φ i) {O r with gen:=(O r).gen+(μ1.O i).gen,es:=some es}:=
    pB h1 (by rw[o4];simp only[aj] at hv;obtain⟨_,_,_,_,_,hh⟩:=hv;exact(hh bP).1) o1 o3 o5 rfl (by simp only[n1,hOr];exact o4.symm) vb
   have nW:=ht.take (U':=fun j=>j<i+1∧S j) Zm (fun j hj=> ⟨Zl,hj.2⟩) ⟨Zm,hS ⟨i,r,none⟩ (hw _ Zm)⟩ GF
   have hm:c7 φ O (cC φ r (μ1.φ i)) (cC O r {O r with gen:=(O r).gen+(μ1.O i).gen,es:=some es}):=by
    refine c7.cC ?_
    rw[n2]
    have:=vb
    rw[←n1] at this
    exact this.imp id fun hh=> ⟨hh.1,hh.2.1,hh.2.2⟩
   simp only[List.map_cons,distinct,Zt,Z4,aaG,decide_eq_false_iff_not] at hd
   obtain⟨A',φ',O',gs,k1,k2,k3,k4,k5,k6⟩:=ih o2 nW (fun w iP=>hw w (by simp[iP])) (fun w iP=>by
    have:w.r≠r:=fun e=>hd.1 (ZJ.2 ⟨w,iP,e⟩)
    rw[aG _ _ this];exact hA w (by simp[iP])) hd.2 ag
   refine⟨A',φ',O',_,k1,?_,hm.trans k3,fun w iP=> ?_,fun r' sL=>k5 r' ?_,fun x hx=> ?_⟩
   ·have e:i+(V.msl (μ.O r).sz kp off len::au).length=i+1+au.length:=by simp;omega
    rw[e];exact k2
   ·rcases Zz.1 iP with rfl| iP
    ·exact k5 r (by simp[an])
    ·exact k4 w iP
   ·by_cases e:r'=r
    ·subst e;simp[an]
    ·rw[aG _ _ e];exact sL
   ·rcases Zz.1 hx with rfl| hx
    ·  refine ma.mono ⟨?_,fun _=> ?_⟩ k3
       ·simp[an]
       ·simp only[an];exact⟨trivial,by rw[n1,hOr];exact o4.symm⟩
    ·exact k6 x hx
 | @ptr i r g idx off kp v rs au vs ws aZ eB bP ki hv h ih=>
   intro outs A φ O k p ho ht hw hA hd ag
   obtain⟨es,jB,o1,o2,o3,o4,o5,rfl⟩:=oI ho
   simp only[dE,Act.run] at ag
   have K2:=hA ⟨i,r,none⟩ Zm
   simp only at K2
   obtain⟨n1,n2⟩:=ht.AL r K2
   have hOr:μf.O r=μ.O r:=K1 ⟨i,r,none⟩ (hw _ Zm)
   have vb: (μf.O r).gen< (O r).gen+(μ1.O i).gen∨((O r).gen+(μ1.O i).gen=(μf.O r).gen∧μ1.φ i=μf.φ r∧(O r).sz=(μf.O r).sz):=by
    rw[n1]
    by_cases hz: (μ1.O i).gen=0
    ·  right;refine⟨Zl,?_,rfl⟩
       rw[hφ];exact cE ⟨i,r,none⟩ (hw _ Zm) rfl hz
    ·left;omega
   have GF:CM Y μf μ1 r i (μ1.φ i) {O r with gen:=(O r).gen+(μ1.O i).gen,es:=some es}:=
    pB h1 (by rw[o4];simp only[aj] at hv;obtain⟨_,_,_,hh⟩:=hv;exact(hh bP).1) o1 o3 o5 rfl (by simp only[n1,hOr];exact o4.symm) vb
   have nW:=ht.take (U':=fun j=>j<i+1∧S j) Zm (fun j hj=> ⟨Zl,hj.2⟩) ⟨Zm,hS ⟨i,r,none⟩ (hw _ Zm)⟩ GF
   have hm:c7 φ O (cC φ r (μ1.φ i)) (cC O r {O r with gen:=(O r).gen+(μ1.O i).gen,es:=some es}):=by
    refine c7.cC ?_
    rw[n2]
    have:=vb
    rw[←n1] at this
    exact this.imp id fun hh=> ⟨hh.1,hh.2.1,hh.2.2⟩
   simp only[List.map_cons,distinct,Zt,Z4,aaG,decide_eq_false_iff_not] at hd
   obtain⟨A',φ',O',gs,k1,k2,k3,k4,k5,k6⟩:=ih o2 nW (fun w iP=>hw w (by simp[iP])) (fun w iP=>by
    have:w.r≠r:=fun e=>hd.1 (ZJ.2 ⟨w,iP,e⟩)
    rw[aG _ _ this];exact hA w (by simp[iP])) hd.2 ag
   refine⟨A',φ',O',_,k1,?_,hm.trans k3,fun w iP=> ?_,fun r' sL=>k5 r' ?_,fun x hx=> ?_⟩
   ·have e:i+(V.mptr (μ.O r).sz kp idx off::au).length=i+1+au.length:=by simp;omega
    rw[e];exact k2
   ·rcases Zz.1 iP with rfl| iP
    ·exact k5 r (by simp[an])
    ·exact k4 w iP
   ·by_cases e:r'=r
    ·subst e;simp[an]
    ·rw[aG _ _ e];exact sL
   ·rcases Zz.1 hx with rfl| hx
    ·  refine ma.mono ⟨?_,fun _=> ?_⟩ k3
       ·simp[an]
       ·simp only[an];exact⟨trivial,by rw[n1,hOr];exact o4.symm⟩
    ·exact k6 x hx
 | @fresh i sz v rs au vs ws bM hv h ih=>
   intro outs A φ O k p ho ht hw hA hd ag
   obtain⟨es,jB,o1,o2,o3,o4,o5,rfl⟩:=iW ho
   simp only[dE,Act.run] at ag
   have K2:=hA ⟨i,r0+i,some sz⟩ Zm
   simp only at K2
   obtain⟨n1,n2⟩:=ht.AL (r0+i) K2
   have GF:CM Y μf μ1 (r0+i) i (μ1.φ i) {gen:=(O (r0+i)).gen+1,sz,arr:=true,fz:=false,es:=some es}:=
    pB h1 (by rw[o4];exact bM) o1 o3 o5 rfl o4.symm (.inl (by simp only[n1];omega))
   have nW:=ht.take (U':=fun j=>j<i+1∧S j) Zm (fun j hj=> ⟨Zl,hj.2⟩) ⟨Zm,hS ⟨i,r0+i,some sz⟩ (hw _ Zm)⟩ GF
   have hm:c7 φ O (cC φ (r0+i) (μ1.φ i)) (cC O (r0+i) {gen:=(O (r0+i)).gen+1,sz,arr:=true,fz:=false,es:=some es}):=
    c7.cC (.inl Zm)
   simp only[List.map_cons,distinct,Zt,Z4,aaG,decide_eq_false_iff_not] at hd
   obtain⟨A',φ',O',gs,k1,k2,k3,k4,k5,k6⟩:=ih o2 nW (fun w iP=>hw w (by simp[iP])) (fun w iP=>by
    have:w.r≠r0+i:=fun e=>hd.1 (ZJ.2 ⟨w,iP,e⟩)
    rw[aG _ _ this];exact hA w (by simp[iP])) hd.2 ag
   refine⟨A',φ',O',_,k1,?_,hm.trans k3,fun w iP=> ?_,fun r' sL=>k5 r' ?_,fun x hx=> ?_⟩
   ·have e:i+(V.msl sz [] 0 0::au).length=i+1+au.length:=by simp;omega
    rw[e];exact k2
   ·rcases Zz.1 iP with rfl| iP
    ·exact k5 (r0+i) (by simp[an])
    ·exact k4 w iP
   ·by_cases e:r'=r0+i
    ·subst e;simp[an]
    ·rw[aG _ _ e];exact sL
   ·rcases Zz.1 hx with rfl| hx
    ·  refine ma.mono ⟨?_,fun _=> ?_⟩ k3
       ·simp[an]
       ·simp only[an];exact⟨trivial,o4.symm⟩
    ·exact k6 x hx
theorem H0 {O:Nat→Obj} {i:Nat} {au:List V} {vs:List Value} {rs:List Nat} {ws:List c9} (hp:jy X μ r0 i au vs rs ws): ∀ {outs:List (Nat×List V)},bS O i au=some outs→
   ∀w ∈ ws,∃g es,(O w.i).es=some es∧(g,es) ∈ outs:=by
 induction hp with
 | nil i=>intro outs _ w hw;simp at hw
 | plain ki hs h ih=>intro outs ho;rw[nc ki] at ho;exact ih ho
 | @sl i r g off len kp v rs au vs ws aZ eB bP ki gY hv h ih=>
   intro outs ho w hw
   obtain⟨es,jB,o1,o2,o3,o4,o5,rfl⟩:=iW ho
   rcases Zz.1 hw with rfl| hw
   ·exact⟨_,es,o1,List.mem_cons_self⟩
   ·obtain⟨g,es',k1,k2⟩:=ih o2 w hw;exact⟨g,es',k1,by simp[k2]⟩
 | @ptr i r g idx off kp v rs au vs ws aZ eB bP ki hv h ih=>
   intro outs ho w hw
   obtain⟨es,jB,o1,o2,o3,o4,o5,rfl⟩:=oI ho
   rcases Zz.1 hw with rfl| hw
   ·exact⟨_,es,o1,List.mem_cons_self⟩
   ·obtain⟨g,es',k1,k2⟩:=ih o2 w hw;exact⟨g,es',k1,by simp[k2]⟩
 | @fresh i sz v rs au vs ws bM hv h ih=>
   intro outs ho w hw
   obtain⟨es,jB,o1,o2,o3,o4,o5,rfl⟩:=iW ho
   rcases Zz.1 hw with rfl| hw
   ·exact⟨_,es,o1,List.mem_cons_self⟩
   ·obtain⟨g,es',k1,k2⟩:=ih o2 w hw;exact⟨g,es',k1,by simp[k2]⟩
end
end Go.AM
namespace Go.AM
open Go Go.RowKit
def after (Y:Ctx) (μ1:Mu) (n:Nat) (aY:Bool) (b:Nat):Prop:=
 Y.KI b∨ ∃j,(aY=true∨j<n)∧(μ1.O j).es.isSome=true∧(μ1.O j).fz=false∧(μ1.φ j).cap≠0∧(μ1.φ j).bB=b
def quiet (μ1:Mu) (φ:Nat→Row) (O:Nat→Obj):Mu:=⟨μ1.w,φ,fun r=> {O r with fz:=true}⟩
theorem rW {μ1:Mu} {φ:Nat→Row} {O:Nat→Obj} {b:Nat}: ¬ (quiet μ1 φ O).own b:=by
 rintro⟨r,_,h,_⟩;simp[quiet] at h
theorem AN {μ1:Mu} {φ φ':Nat→Row} {O O':Nat→Obj} (h:c7 φ O φ' O'):Le (quiet μ1 φ O) (quiet μ1 φ' O'):=
 ⟨Zy _,fun _ _ _=> ⟨rfl,rW⟩,fun r=> (h r).1,fun r e=> (h r).2 e,rfl,rfl,rfl,fun _ _=>rfl⟩
theorem iy: ∀ {au bs:List Nat},distinct (au++bs)=true→distinct au=true∧distinct bs=true∧ ∀b ∈ bs,b ∉ au
 | [],bs,h=> ⟨rfl,h,fun _ _=>Zm⟩
 | a::au,bs,h=>by
   simp only[Z2,distinct,Zt,Z4,aaG,decide_eq_false_iff_not,ZF,not_or] at h ⊢
   obtain⟨h1,h2⟩:=h
   obtain⟨k1,k2,k3⟩:=iy h2
   refine⟨⟨h1.1,k1⟩,k2,fun b hb=> ?_⟩
   simp only[Zz,not_or]
   exact⟨fun e=>h1.2 (e ▸ hb),k3 b hb⟩
theorem sY {i r g:Nat}: ∀ {gs:List (Nat×Nat×Nat)},lu i gs=some (r,g)→(i,r,g) ∈ gs
 | [],h=>by simp[lu] at h
 | (j,r',g')::gs,h=>by
   simp only[lu] at h
   split at h
   · rename_i e
     subst e
     simp only[Zr,Zw] at h
     simp[h.1,h.2]
   ·exact aaY _ (sY h)
theorem ng: ∀ {es:List V} (n:Nat),V.aR es=true→V.aR (es.take n)=true
 | _,0,_=>by simp[V.aR]
 | [],_+1,_=>by simp[V.aR]
 | x::xs,n+1,h=>by
   simp only[V.aR,Zt] at h
   simp only[Z9,V.aR,Zt]
   exact⟨h.1,ng n h.2⟩
theorem ni: ∀ {es:List V} (n:Nat),V.aR es=true→V.aR (es.drop n)=true
 | _,0,h=>by simpa using h
 | [],_+1,_=>by simp[V.aR]
 | x::xs,n+1,h=>by
   simp only[V.aR,Zt] at h
   simpa using ni n h.2
theorem rX {es:List V} {off len:Nat} (h:V.aR es=true):V.aR (aw es off len)=true:=ng _ (ni _ h)
section
variable {Y:Ctx} {μf μ1:Mu} {n:Nat} {aY:Bool} {C:aQ} {T:Nat→V}
theorem jc {φ:Nat→Row} {O:Nat→Obj} {b:Nat} (h:Own ⟨Y.toTrEnv,after Y μ1 n aY,Y.tok⟩ (quiet μ1 φ O) b):Own Y μ1 b:=by
 rcases h with h| h| ⟨j,_,h1,h2,h3,h4⟩
 ·exact absurd h rW
 ·exact .inr h
 ·exact .inl ⟨j,h1,h2,h3,h4⟩
theorem gE (h1:aP Y μ1) {U:Nat→Prop} {A:Nat→Option Nat} {φ:Nat→Row} {O:Nat→Obj} {gs:List (Nat×Nat×Nat)} {c:V} {rs:List Nat} {val:Value} {r:Nat} {k:V→Act} {p:V×St}
   (ht:eh Y μf μ1 U A φ O) (X5: ∀r,(μf.O r).gen≤(O r).gen) (Ai: ∀x ∈ gs,ma μ1 φ O x.1 x.2.1 x.2.2) (he:JX Y μ1 n c rs val) (hU: ∀j ∈ rs,n≤j→ ¬U j) (ag: (cN aY r gs c k).run C ⟨T,O⟩=some p):
   ∃A' φ' O' c',(k c').run C ⟨T,O'⟩=some p∧eh Y μf μ1 (fun j=>U j∨(aY=true∧j ∈ rs)) A' φ' O'∧c7 φ O φ' O'∧(∀r,A r≠none→A' r≠none)∧
     aj ⟨Y.toTrEnv,after Y μ1 n aY,Y.tok⟩ (quiet μ1 φ' O') c' val∧(c.gQ=true→c'.aF=true):=by
 have GF:eh Y μf μ1 (fun j=>U j∨(aY=true∧j ∈ rs)) A φ O:=⟨ht.AL,fun r j e=> ⟨(ht.w8 r j e).1,.inl (ht.w8 r j e).2⟩,ht.inj⟩
 cases he with
 | pure hp hv=>
   refine⟨A,φ,O,c,?_,GF,c7.refl _ _,fun _ h=>h,cT (X:=Y) (μ:=μ1) (μ':=quiet μ1 φ O) rfl (fun b=>jc) hp hv,fun hc=> ?_⟩
   ·cases c<;>simp[V.aq] at hp<;>simpa [cN,V.aq,hp] using ag
   ·cases c<;>simp_all[V.aq,V.gQ]
 | @sl j g off len es val hr aZ hg hl hv=>
   simp only[cN] at ag
   split at ag
   · rename_i r' g' OU
     obtain⟨g1,g2⟩:=Ai _ (sY OU)
     refine⟨A,φ,O,_,ag,GF,c7.refl _ _,fun _ h=>h,?_,fun _=>rfl⟩
     simp only[aj] at hv ⊢
     obtain⟨a,cap,rfl,q1,q2,q3⟩:=hv
     refine⟨a,cap,rfl,q1,g1,fun e=> ?_⟩
     obtain⟨e1,e2⟩:=g2 e
     simp only[quiet] at e1 e2 ⊢
     rw[e1,e2];exact q3 hg
   ·exact absurd ag ak
 | @own j g off len es val hr aZ eB hg hl hp hv=>
   simp only[cN] at ag
   have a0:0 < (μ1.O j).sz:=by simp only[aj] at hv;obtain⟨_,_,_,_,_,hh⟩:=hv;exact(hh hg).1
   obtain⟨q1,q2,q3,q4⟩:=h1.row j es aZ a0
   have kZ: (aw es off len).length=len:=by simp[aw];omega
   have ME: (aw es off len).all (aJ · (μ1.O j).sz)=true:=by
     simp only[Zx] at q3 ⊢
     exact fun x hx=>q3 x (Z5 (ZU hx))
   have iC: (aw es off len).all V.cq=true:=by
     simp only[Zx] at ME ⊢
     exact fun x hx=> (bH (ME x hx)).1
   simp only[aj] at hv
   obtain⟨a,cap,rfl,s1,s2,s3⟩:=hv
   obtain⟨-,a1,a2⟩:=s3 hg
   cases Rg:aY with
   | true=>
     subst Rg
     rw[if_pos rfl] at ag
     simp only[Act.run] at ag
     have cE: (⟨(μ1.φ j).bB,(μ1.φ j).base+off*(μ1.O j).sz,cap⟩:Row).cap=cap:=rfl
     have P9:CM Y μf μ1 r j ⟨(μ1.φ j).bB,(μ1.φ j).base+off*(μ1.O j).sz,cap⟩ {gen:=(O r).gen+1,sz:=(μ1.O j).sz,arr:=true,fz:=false,es:=some (aw es off len)}:=by
      refine⟨⟨_,rfl,hp,q1,by simp only[kZ];exact s1,ME,?_⟩,⟨by simp[aZ],eB⟩,fun hc=> ⟨?_,rfl⟩,.inl ?_,fun hs es' he=> ?_⟩
      ·rcases q4 with q4| ⟨cc,TT,vs,p1,p2,p3,p4⟩
       ·left;simp only;omega
       ·right
        refine⟨cc,TT,(vs.drop off).take len,p1,?_,ah.take _ (ah.drop _ p3),(p4.drop off).take len⟩
        simp only
        rw[←a1,ZR] at p2
        omega
      ·simp only at hc;omega
      ·have:=X5 r;simp only;omega
      ·simp only at he;injection he with he;subst he
       exact rX (hs es aZ)
     have hm:c7 φ O (cC φ r ⟨(μ1.φ j).bB,(μ1.φ j).base+off*(μ1.O j).sz,cap⟩) (cC O r {gen:=(O r).gen+1,sz:=(μ1.O j).sz,arr:=true,fz:=false,es:=some (aw es off len)}):=
      c7.cC (.inl Zm)
     refine⟨_,_,_,_,ag,ht.take (U':=fun i=>U i∨(True∧i ∈ [j])) (hU j Zm hr) (fun i hi=> .inl hi) Zm P9 |> fun t=>by simpa using t,hm,fun r' sL=> ?_,?_,fun _=>rfl⟩
     ·by_cases e:r'=r
      ·subst e;simp[an]
      ·rw[aG _ _ e];exact sL
     ·simp only[aj,quiet,an]
      refine⟨a,cap,by rw[kZ],by rw[kZ];exact s1,Zy _,fun _=> ⟨a0,Zl,a2.imp id fun e=> ?_⟩⟩
      rw[e];simp
   | false=>
     subst Rg
     rw[if_neg Zm] at ag
     refine⟨A,φ,O,_,ag,GF,c7.refl _ _,fun _ h=>h,?_,fun _=>rfl⟩
     simp only[aj]
     by_cases Bb:len=0
     ·exact⟨hp,iC,a,cap,[],by rw[kZ],Zl,by simp[aw,Bb,ah],.inl (by simpa using kZ.trans Bb)⟩
     ·rcases q4 with q4| ⟨cc,TT,vs,p1,p2,p3,p4⟩
      ·omega
      ·refine⟨hp,iC,a,cap,(vs.drop off).take len,by rw[kZ],Zl,bg (X:=Y) (μ:=μ1) (μ':=quiet μ1 φ O) rfl (fun b=>jc) hp (ah.take _ (ah.drop _ p3)),
        .inr ⟨_,_,a2.resolve_left Zl,?_,(Zu.1 p1).1,(p4.drop off).take len⟩⟩
       rintro(h| h| ⟨j',k0,k1,k2,k3,k4⟩)
       ·exact rW h
       ·exact h1.qY j (by simp[aZ]) Zl h
       ·have NS:j'<n:=by simpa using k0
        exact h1.inj j' j Zl k1 (by simp[aZ]) k3 Zl k4
theorem eh.lo {U:Nat→Prop} {A:Nat→Option Nat} {φ:Nat→Row} {O:Nat→Obj} (h:eh Y μf μ1 U A φ O) (r:Nat): (μf.O r).gen≤(O r).gen:=by
 cases e:A r with
 | none=>rw[(h.AL r e).1];exact Zy _
 | some j=>
   rcases(h.w8 r j e).1.gen with h| ⟨h,_⟩ <;>omega
def yz (Y:Ctx) (μf μ1:Mu) (C:aQ) (T:Nat→V) (U:Nat→Prop) (A:Nat→Option Nat) (φ:Nat→Row) (O:Nat→Obj) {α:Type} (k:α→Act) (p:V×St) (G: (Nat→Row)→(Nat→Obj)→α→Prop):Prop:=
 ∃A' φ' O' c',(k c').run C ⟨T,O'⟩=some p∧eh Y μf μ1 U A' φ' O'∧c7 φ O φ' O'∧(∀r,A r≠none→A' r≠none)∧G φ' O' c'
theorem eh.more {U U':Nat→Prop} {A:Nat→Option Nat} {φ:Nat→Row} {O:Nat→Obj} (h:eh Y μf μ1 U A φ O) (hU: ∀j,U j→U' j):eh Y μf μ1 U' A φ O:=
 ⟨h.AL,fun r j e=> ⟨(h.w8 r j e).1,hU _ (h.w8 r j e).2⟩,h.inj⟩
theorem qM (h1:aP Y μ1): ∀ {U:Nat→Prop} {A:Nat→Option Nat} {φ:Nat→Row} {O:Nat→Obj} {gs:List (Nat×Nat×Nat)} {cs:List V} {rs:List Nat} {vals:List Value} {r:Nat} {k:List V→Act} {p:V×St},
   eh Y μf μ1 U A φ O→(∀x ∈ gs,ma μ1 φ O x.1 x.2.1 x.2.2)→vL Y μ1 n cs rs vals→(∀j ∈ rs,n≤j→ ¬U j)→distinct rs=true→(dB aY r gs cs k).run C ⟨T,O⟩=some p→
   yz Y μf μ1 C T (fun j=>U j∨(aY=true∧j ∈ rs)) A φ O k p fun φ' O' b6=>ah ⟨Y.toTrEnv,after Y μ1 n aY,Y.tok⟩ (quiet μ1 φ' O') b6 vals∧(cs.all V.gQ=true→b6.all V.aF=true):=by
 intro U A φ O gs cs rs vals r k p ht Ai he hU hd ag
 induction he generalizing U A φ O r k with
 | nil=>exact⟨A,φ,O,[],ag,ht.more fun j h=> .inl h,c7.refl _ _,fun _ h=>h,by simp[ah],fun _=>rfl⟩
 | @cons c rs rs' val cs vals h hs ih=>
   obtain⟨d1,d2,d3⟩:=iy hd
   simp only[dB] at ag
   obtain⟨A1,φ1,O1,c1,k1,k2,k3,k4,k5,k6⟩:=gE h1 ht ht.lo Ai h (fun j hj=>hU j (by simp[hj])) ag
   obtain⟨A2,φ2,O2,Ub,m1,m2,m3,m4,m5,m6⟩:=ih k2 (fun x hx=> (Ai x hx).mono k3) (fun j hj hn hu=>by
    rcases hu with hu| ⟨_,hu⟩
    ·exact hU j (by simp[hj]) hn hu
    ·exact d3 j hj hu) d2 k1
   refine⟨A2,φ2,O2,c1::Ub,m1,m2.more fun j hj=> ?_,k3.trans m3,fun r' h=>m4 r' (k4 r' h),?_,?_⟩
   ·rcases hj with(hj| ⟨e,hj⟩) | ⟨e,hj⟩
    ·exact .inl hj
    ·exact .inr ⟨e,by simp[hj]⟩
    ·exact .inr ⟨e,by simp[hj]⟩
   ·simp only[ah];exact⟨aj.mono (AN m3) k5,m5⟩
   ·simp only[aad,Zt]
    exact fun hc=> ⟨k6 hc.1,m6 hc.2⟩
theorem gF: ∀ {cs:List V},V.al cs=true→cs.all V.gQ=true→cs.all V.aF=true
 | [],_,_=>rfl
 | a::au,hp,hc=>by
   simp only[V.al,Zt] at hp
   simp only[aad,Zt] at hc ⊢
   refine⟨?_,gF hp.2 hc.2⟩
   have h1:=hp.1
   have h2:=hc.1
   cases a<;>simp_all[V.aq,V.gQ]
theorem oK (h1:aP Y μ1) {U:Nat→Prop} {A:Nat→Option Nat} {φ:Nat→Row} {O:Nat→Obj} {gs:List (Nat×Nat×Nat)} {c:V} {rs:List Nat} {val:Value} {r:Nat} {k:V→Act} {p:V×St}
  (ht:eh Y μf μ1 U A φ O) (Ai: ∀x ∈ gs,ma μ1 φ O x.1 x.2.1 x.2.2) (he:E8 Y μ1 n c rs val) (hU: ∀j ∈ rs,n≤j→ ¬U j) (hd:distinct rs=true) (ag: (gK aY r gs c k).run C ⟨T,O⟩=some p):
  yz Y μf μ1 C T (fun j=>U j∨(aY=true∧j ∈ rs)) A φ O k p fun φ' O' c'=>aj ⟨Y.toTrEnv,after Y μ1 n aY,Y.tok⟩ (quiet μ1 φ' O') c' val:=by
 unfold gK at ag
 split at ag
 ·rename_i hp
  refine⟨A,φ,O,c,ag,ht.more fun j h=> .inl h,c7.refl _ _,fun _ h=>h,?_⟩
  cases he with
  | cell h=>
    cases h with
    | pure Bd hv=>exact cT (X:=Y) (μ:=μ1) (μ':=quiet μ1 φ O) rfl (fun b=>jc) hp hv
    | sl=>simp[V.aq] at hp
    | own=>simp[V.aq] at hp
  | @agg cs _ vals hc h=>
    have Bd:V.al cs=true:=by simpa [V.aq] using hp
    obtain⟨hv,_⟩:=h.cA Bd
    simp only[aj]
    exact⟨gF Bd hc,_,rfl,bg (X:=Y) (μ:=μ1) (μ':=quiet μ1 φ O) rfl (fun b=>jc) Bd hv⟩
 ·cases he with
  | cell h=>
    cases h with
    | pure hp hv=>rename_i Rc;exact absurd hp Rc
    | sl hr aZ hg hl hv=>
      obtain⟨A1,φ1,O1,c1,k1,k2,k3,k4,k5,k6⟩:=gE h1 ht ht.lo Ai (.sl hr aZ hg hl hv) hU ag
      exact⟨A1,φ1,O1,c1,k1,k2,k3,k4,k5⟩
    | own hr aZ eB hg hl hp hv=>
      obtain⟨A1,φ1,O1,c1,k1,k2,k3,k4,k5,k6⟩:=gE h1 ht ht.lo Ai (.own hr aZ eB hg hl hp hv) hU ag
      exact⟨A1,φ1,O1,c1,k1,k2,k3,k4,k5⟩
  | agg hc h=>
    obtain⟨A1,φ1,O1,c1,k1,k2,k3,k4,k5,k6⟩:=qM h1 ht Ai h hU hd ag
    refine⟨A1,φ1,O1,_,k1,k2,k3,k4,?_⟩
    simp only[aj]
    exact⟨k6 hc,_,rfl,k5⟩
theorem vf (h1:aP Y μ1): ∀ {U:Nat→Prop} {A:Nat→Option Nat} {φ:Nat→Row} {O:Nat→Obj} {gs:List (Nat×Nat×Nat)} {cs:List V} {rs:List Nat} {vals:List Value} {r:Nat} {k:List V→Act} {p:V×St},
   eh Y μf μ1 U A φ O→(∀x ∈ gs,ma μ1 φ O x.1 x.2.1 x.2.2)→qK Y μ1 n cs rs vals→(∀j ∈ rs,n≤j→ ¬U j)→distinct rs=true→(gT aY r gs cs k).run C ⟨T,O⟩=some p→
   yz Y μf μ1 C T (fun j=>U j∨(aY=true∧j ∈ rs)) A φ O k p fun φ' O' b6=>ah ⟨Y.toTrEnv,after Y μ1 n aY,Y.tok⟩ (quiet μ1 φ' O') b6 vals:=by
 intro U A φ O gs cs rs vals r k p ht Ai he hU hd ag
 induction he generalizing U A φ O r k with
 | nil=>exact⟨A,φ,O,[],ag,ht.more fun j h=> .inl h,c7.refl _ _,fun _ h=>h,by simp[ah]⟩
 | @cons c rs rs' val cs vals h hs ih=>
   obtain⟨d1,d2,d3⟩:=iy hd
   simp only[gT] at ag
   obtain⟨A1,φ1,O1,c1,k1,k2,k3,k4,k5⟩:=oK h1 ht Ai h (fun j hj=>hU j (by simp[hj])) d1 ag
   obtain⟨A2,φ2,O2,Ub,m1,m2,m3,m4,m5⟩:=ih k2 (fun x hx=> (Ai x hx).mono k3) (fun j hj hn hu=>by
    rcases hu with hu| ⟨_,hu⟩
    ·exact hU j (by simp[hj]) hn hu
    ·exact d3 j hj hu) d2 k1
   refine⟨A2,φ2,O2,c1::Ub,m1,m2.more fun j hj=> ?_,k3.trans m3,fun r' h=>m4 r' (k4 r' h),?_⟩
   ·rcases hj with(hj| ⟨e,hj⟩) | ⟨e,hj⟩
    ·exact .inl hj
    ·exact .inr ⟨e,by simp[hj]⟩
    ·exact .inr ⟨e,by simp[hj]⟩
   ·simp only[ah];exact⟨aj.mono (AN m3) k5,m5⟩
theorem qK.cA {cs:List V} {rs:List Nat} {vals:List Value} (h:qK Y μ1 n cs rs vals) (hp:V.al cs=true):ah Y μ1 cs vals∧rs=[]:=by
 induction h with
 | nil=>simp[ah]
 | cons h hs ih=>
   simp only[V.al,Zt] at hp
   obtain⟨i1,i2⟩:=ih hp.2
   cases h with
   | cell h=>
     cases h with
     | pure Bd hv=>simp only[ah];exact⟨⟨hv,i1⟩,by simpa using i2⟩
     | sl=>simp[V.aq] at hp
     | own=>simp[V.aq] at hp
   | @agg cs _ vals hc h=>
     have Bd:V.al cs=true:=by simpa [V.aq] using hp.1
     obtain⟨hv,e⟩:=h.cA Bd
     subst e
     simp only[ah,aj]
     exact⟨⟨⟨gF Bd hc,_,rfl,hv⟩,i1⟩,by simpa using i2⟩
end
end Go.AM
namespace Go.AM
open Go Go.RowKit
mutual
theorem jC: ∀ {x:V},V.isScalar x=true→V.aq x=true
 | .bool _,_| .int ..,_| .float _,_| .str _,_| .nilp,_| .nilfn,_| .nili,_| .nils,_=>rfl
 | .any,hp| .own ..,hp| .msl ..,hp| .mptr ..,hp| .sl ..,hp| .ptr ..,hp| .lit ..,hp| .eptr ..,hp| .litk ..,hp| .epk ..,hp| .mp ..,hp| .it ..,hp| .mlit ..,hp| .fn ..,hp| .bfn ..,hp| .iface ..,hp=>by simp[V.isScalar] at hp
 | .agg cs,hp=>by simpa [V.aq] using eH (by simpa [V.isScalar] using hp)
 | .tuple cs,hp=>by simpa [V.aq] using eH (by simpa [V.isScalar] using hp)
theorem eH: ∀ {xs:List V},V.aR xs=true→V.al xs=true
 | [],_=>rfl
 | x::xs,hp=>by
   simp only[V.aR,Zt] at hp
   simp only[V.al,Zt]
   exact⟨jC hp.1,eH hp.2⟩
end
section
variable {Y:Ctx} {μf μ1:Mu} {n:Nat} {aY:Bool} {C:aQ} {T:Nat→V}
def JY (Y:Ctx) (μ:Mu) (n:Nat) (v:V) (rs:List Nat) (val:Value):Prop:=
 E8 Y μ n v rs val∨ ∃vs us,v= .tuple vs∧val= .tuple us∧qK Y μ n vs rs us.toList
theorem cI.Qa (h1:aP Y μ1) {T':Nat→V} {v0 v:V} {rs:List Nat} {val:Value} (hv:aj Y μ1 v0 val) (h:cI n ⟨T',μ1.O⟩ v0 v rs):JY Y μ1 n v rs val:=by
 cases h with
 | one h=>exact .inl (oG h1 hv h)
 | many h=>
   simp only[aj] at hv
   obtain⟨us,rfl,hv⟩:=hv
   exact .inr ⟨_,us,rfl,rfl,nb h1 hv h⟩
theorem JY.pure {v:V} {rs:List Nat} {val:Value} (h:JY Y μ1 n v rs val) (hp:V.aq v=true):aj Y μ1 v val:=by
 rcases h with h| ⟨vs,us,rfl,rfl,h⟩
 ·have hs:qK Y μ1 n [v] (rs++[]) [val]:= .cons h .nil
  have:=(hs.cA (by simp[V.al,hp])).1
  simp only[ah] at this
  exact this.1
 ·simp only[aj]
  exact⟨us,rfl,(h.cA (by simpa [V.aq] using hp)).1⟩
theorem tu (h1:aP Y μ1) {U:Nat→Prop} {A:Nat→Option Nat} {φ:Nat→Row} {O:Nat→Obj} {gs:List (Nat×Nat×Nat)} {c v:V} {rs:List Nat} {val:Value} {r:Nat} {σ':St}
  (ht:eh Y μf μ1 U A φ O) (Ai: ∀x ∈ gs,ma μ1 φ O x.1 x.2.1 x.2.2) (he:JY Y μ1 n c rs val) (hU: ∀j ∈ rs,n≤j→ ¬U j) (hd:distinct rs=true) (ag: (db aY r gs c .done).run C ⟨T,O⟩=some (v,σ')):
  σ'.T=T∧((V.aq c=true∧v=c∧σ'.O=O∧aj Y μ1 c val)∨ ∃A' φ',eh Y μf μ1 (fun j=>U j∨(aY=true∧j ∈ rs)) A' φ' σ'.O∧c7 φ O φ' σ'.O∧(∀r,A r≠none→A' r≠none)∧aj ⟨Y.toTrEnv,after Y μ1 n aY,Y.tok⟩ (quiet μ1 φ' σ'.O) v val):=by
 unfold db at ag
 split at ag
 ·rename_i hp
  obtain⟨rfl,rfl⟩:=aI ag
  exact⟨rfl,.inl ⟨hp,rfl,rfl,he.pure hp⟩⟩
 ·rename_i Rc
  split at ag
  ·rename_i vs
   rcases he with he| ⟨vs',us,e,rfl,he⟩
   ·cases he with
    | cell h=>
      cases h with
      | pure hp hv=>exact absurd hp Rc
   ·injection e with e;subst e
    obtain⟨A1,φ1,O1,c1,k1,k2,k3,k4,k5⟩:=vf h1 ht Ai he hU hd ag
    obtain⟨rfl,rfl⟩:=aI k1
    refine⟨rfl,.inr ⟨A1,φ1,k2,k3,k4,?_⟩⟩
    simp only[aj]
    exact⟨us,rfl,k5⟩
  ·rename_i X6
   rcases he with he| ⟨vs',us,e,rfl,he⟩
   ·obtain⟨A1,φ1,O1,c1,k1,k2,k3,k4,k5⟩:=oK h1 ht Ai he hU hd ag
    obtain⟨rfl,rfl⟩:=aI k1
    exact⟨rfl,.inr ⟨A1,φ1,k2,k3,k4,k5⟩⟩
   ·exact absurd e (X6 vs')
end
section
variable {X:Ctx} {μ μ1:Mu} {r0:Nat}
theorem rY {au:List V} {vals:List Value} {rs:List Nat} {ws:List c9} (ho:aP X μ) (hp:jy X μ r0 0 au vals rs ws)
  (le:Le ⟨μ.w,dz μ.φ ws,(enter au).O⟩ μ1) (h1:aP ⟨X.toTrEnv,cp X μ rs ws,X.tok⟩ μ1) {Of:Nat→Obj} (hf:aP X ⟨μ.w,μ.φ,Of⟩) (K1: ∀w ∈ ws,Of w.r=μ.O w.r)
  {U:Nat→Prop} {A:Nat→Option Nat} {φ:Nat→Row} {O:Nat→Obj} (ht:eh ⟨X.toTrEnv,cp X μ rs ws,X.tok⟩ ⟨μ.w,μ.φ,Of⟩ μ1 U A φ O) (hm:c7 μ.φ Of φ O) (hA: ∀w ∈ ws,A w.r≠none)
  (hT: ∀j,U j→((∀es,(μ1.O j).es=some es→V.aR es=true))∨ ∀b,Own X ⟨μ1.w,φ,O⟩ b→Own ⟨X.toTrEnv,cp X μ rs ws,X.tok⟩ μ1 b):
  Le ⟨μ.w,μ.φ,Of⟩ ⟨μ1.w,φ,O⟩∧aP X ⟨μ1.w,φ,O⟩:=by
 have K3: ∀b,(⟨μ.w,dz μ.φ ws,(enter au).O⟩:Mu).own b→ ∃w ∈ ws,(Of w.r).es.isSome=true∧(Of w.r).fz=false∧(μ.φ w.r).cap≠0∧(μ.φ w.r).bB=b:=fun b hb=>by
  obtain⟨i,r,k1,k2,k3,k4,k5⟩:=rV hp hb
  have e:=K1 _ k1
  simp only at e
  exact⟨_,k1,by rw[e];exact k2,by rw[e];exact k3,k4,k5⟩
 have Qb: ∀j,(μ1.O j).es.isSome=true∧(μ1.O j).fz=false→(μ1.φ j).cap≠0→μ1.own (μ1.φ j).bB:=fun j hl hc=> ⟨j,hl.1,hl.2,hc,rfl⟩
 have kept: ∀r,A r=none→(Of r).es.isSome=true→(μ.φ r).cap≠0→(μ.φ r).bB<μ.w.heap.size∧μ1.w.heap[(μ.φ r).bB]? =μ.w.heap[(μ.φ r).bB]? ∧ ¬μ1.own (μ.φ r).bB:=fun r hr hs hc=>by
  obtain⟨es,he⟩:=ZA.1 hs
  have bz: (μ.φ r).bB<μ.w.heap.size:=ez.bB (μ:=⟨μ.w,μ.φ,Of⟩) (hf.ok r es he) hc
  have ig: ¬ (⟨μ.w,dz μ.φ ws,(enter au).O⟩:Mu).own (μ.φ r).bB:=fun hb=>by
    obtain⟨w,k1,k2,k3,k4,k5⟩:=K3 _ hb
    have bQ:w.r≠r:=fun e=>hA w k1 (e ▸ hr)
    exact hf.inj w.r r bQ k2 hs k4 hc k5
  obtain⟨l1,l2⟩:=le.bR _ bz ig
  exact⟨bz,l1,l2⟩
 have Uc: ∀b,(⟨μ1.w,φ,O⟩:Mu).own b→(⟨μ.w,μ.φ,Of⟩:Mu).own b∨μ1.own b:=fun b hb=>by
  obtain⟨r,k1,k2,k3,k4⟩:=hb
  simp only at k1 k2 k3 k4
  cases e:A r with
  | none=>
    obtain⟨n1,n2⟩:=ht.AL r e
    rw[n1] at k1 k2
    rw[n2] at k3 k4
    exact .inl ⟨r,k1,k2,k3,k4⟩
  | some j=>
    obtain⟨t,_⟩:=ht.w8 r j e
    obtain⟨b1,b2⟩:=t.bB k3
    exact .inr ⟨j,t.live.1,t.live.2,b1,by rw[←b2];exact k4⟩
 have LE:Le ⟨μ.w,μ.φ,Of⟩ ⟨μ1.w,φ,O⟩:=by
  refine⟨le.size,fun b hb ig=> ?_,fun r=> (hm r).1,fun r e=> (hm r).2 e,le.os,le.output,le.tape,le.frozen⟩
  have Ud: ¬ (⟨μ.w,dz μ.φ ws,(enter au).O⟩:Mu).own b:=fun js=>by
    obtain⟨w,k1,k2,k3,k4,k5⟩:=K3 _ js
    exact ig ⟨w.r,k2,k3,k4,k5⟩
  obtain⟨l1,l2⟩:=le.bR b hb Ud
  exact⟨l1,fun h3=> (Uc b h3).elim ig l2⟩
 refine⟨LE,fun r es aZ=> ?_,fun r1 r2 bQ e1 e2 e3 e4 e5=> ?_,fun r k1 k2 hb=> ?_,fun b hb=>ZC (ho.blt b hb) le.size⟩
 ·simp only at aZ
  cases e:A r with
  | none=>
    obtain⟨n1,n2⟩:=ht.AL r e
    simp only at n1 n2
    rw[n1] at aZ
    exact ez.bR (r:=r) (r':=r) LE (hf.ok r es aZ) (by simp[n1]) (by simp[n2]) (fun hc=> (kept r e (by simp[aZ]) hc).2.1)
  | some j=>
    obtain⟨t,hu⟩:=ht.w8 r j e
    obtain⟨es',s0,s1,s2,s3,s4,s5⟩:=t.es
    rw[aZ] at s0;injection s0 with s0;subst s0
    left
    unfold jX
    simp only
    refine⟨s2,s3,s4,s5.imp id ?_⟩
    rintro⟨c,TT,vs,p1,p2,p3,p4⟩
    refine⟨c,TT,vs,p1,p2,?_,p4⟩
    rcases hT j hu with hs| hs
    ·exact dA (X:=⟨X.toTrEnv,cp X μ rs ws,X.tok⟩) (μ:=μ1) (X':=X) (μ':=⟨μ1.w,φ,O⟩) rfl (t.sc hs _ aZ) p3
    ·exact bg (X:=⟨X.toTrEnv,cp X μ rs ws,X.tok⟩) (μ:=μ1) (B:=X.KI) (μ':=⟨μ1.w,φ,O⟩) rfl hs s1 p3
 ·simp only at e1 e2 e3 e4 e5
  cases a1:A r1 with
  | none=>
    obtain⟨n1,n2⟩:=ht.AL r1 a1
    simp only at n1 n2
    rw[n1] at e1;rw[n2] at e3 e5
    cases a2:A r2 with
    | none=>
      obtain⟨m1,m2⟩:=ht.AL r2 a2
      simp only at m1 m2
      rw[m1] at e2;rw[m2] at e4 e5
      exact hf.inj r1 r2 bQ e1 e2 e3 e4 e5
    | some j=>
      obtain⟨t,_⟩:=ht.w8 r2 j a2
      obtain⟨b1,b2⟩:=t.bB e4
      exact(kept r1 a1 e1 e3).2.2 (by rw[e5,b2];exact Qb j t.live b1)
  | some j=>
    obtain⟨t,_⟩:=ht.w8 r1 j a1
    obtain⟨b1,b2⟩:=t.bB e3
    cases a2:A r2 with
    | none=>
      obtain⟨m1,m2⟩:=ht.AL r2 a2
      simp only at m1 m2
      rw[m1] at e2;rw[m2] at e4 e5
      exact(kept r2 a2 e2 e4).2.2 (by rw[←e5,b2];exact Qb j t.live b1)
    | some j2=>
      obtain⟨t2,_⟩:=ht.w8 r2 j2 a2
      obtain⟨c1,c2⟩:=t2.bB e4
      refine h1.inj j j2 (fun e=>bQ (ht.inj r1 r2 j a1 (e ▸ a2))) t.live.1 t2.live.1 b1 c1 ?_
      rw[←b2,←c2];exact e5
 ·simp only at k1 k2 hb
  cases a1:A r with
  | none=>
    obtain⟨n1,n2⟩:=ht.AL r a1
    simp only at n1 n2
    rw[n1] at k1;rw[n2] at k2 hb
    exact hf.qY r k1 k2 hb
  | some j=>
    obtain⟨t,_⟩:=ht.w8 r j a1
    obtain⟨b1,b2⟩:=t.bB k2
    exact h1.qY j t.live.1 b1 (.inl (b2 ▸ hb))
end
end Go.AM
namespace Go.AM
open Go Go.RowKit
section
variable {X:Ctx} {μ μ1:Mu} {r0:Nat} {C:aQ} {T:Nat→V}
theorem CN {r:Nat} {aY:Bool} {v:V} (h:re r aY v=true): ∃sz xs,v= .own sz xs∧aY=false∧V.aR xs=true:=by
 cases v<;>simp[re] at h
 rename_i sz xs
 exact⟨sz,xs,rfl,h.2.1,h.2.2⟩
theorem JZ {au:List V} {vals:List Value} {rs:List Nat} {ws:List c9} (ho:aP X μ) (hp:jy X μ r0 0 au vals rs ws)
   (le:Le ⟨μ.w,dz μ.φ ws,(enter au).O⟩ μ1) (h1:aP ⟨X.toTrEnv,cp X μ rs ws,X.tok⟩ μ1) {U:Nat→Prop} {A:Nat→Option Nat} {φ:Nat→Row} {O:Nat→Obj}
   (ht:eh ⟨X.toTrEnv,cp X μ rs ws,X.tok⟩ ⟨μ.w,μ.φ,μ.O⟩ μ1 U A φ O) (hA: ∀w ∈ ws,A w.r≠none) {n:Nat} (hU: ∀j,U j→j<n) {sz:Nat} {xs:List V} {refs:List Nat} {val:Value}
   (he:JX ⟨X.toTrEnv,cp X μ rs ws,X.tok⟩ μ1 n (.own sz xs) refs val) (hs:V.aR xs=true):aj X ⟨μ1.w,φ,O⟩ (.lit sz xs) val:=by
 cases he with
 | pure ki _=>simp[V.aq] at ki
 | @own r g off len es _ hr aZ eB hg hl ki h=>
   simp only[aj] at h
   obtain⟨a0,cap,rfl,hle,_,bq⟩:=h
   obtain⟨z1,z2,z3⟩:=bq hg
   obtain⟨q1,q2,q3,q4⟩:=h1.row r es aZ z1
   have kZ: (aw es off len).length=len:=by simp[aw];omega
   simp only[aj]
   refine⟨ki,?_,a0,cap,?_⟩
   ·simp only[Zx] at q3 ⊢
    exact fun x hx=> (bH (q3 x (Z5 (ZU hx)))).1
   by_cases b7:cap=0
   ·have:len=0:=Zl
    subst this
    refine⟨[],by rw[kZ],by rw[kZ];omega,?_,.inl ?_⟩
    ·simp[aw,ah]
    ·simp[aw]
   have gX: (μ1.φ r).cap≠0:=Zl
   rcases q4 with q4| ⟨cc,TT,vs,p1,p2,p3,p4⟩
   ·exact absurd q4 gX
   have X7:=dA (X:=⟨X.toTrEnv,cp X μ rs ws,X.tok⟩) (μ:=μ1) (X':=X) (μ':=⟨μ1.w,φ,O⟩) rfl hs (ah.take len (ah.drop off p3))
   refine⟨(vs.drop off).take len,by rw[kZ],by rw[kZ];omega,X7,.inr ⟨_,_,z3.resolve_left b7,?_,(Zu.1 p1).1,(p4.drop off).take len⟩⟩
   have fN:μ1.own (μ1.φ r).bB:=⟨r,by simp[aZ],eB,gX,rfl⟩
   rintro(⟨r',e1,e2,e3,e4⟩ | Co)
   ·simp only at e1 e2 e3 e4
    cases e:A r' with
    | none=>
      obtain⟨n1,n2⟩:=ht.AL r' e
      simp only at n1 n2
      rw[n1] at e1 e2
      rw[n2] at e3 e4
      obtain⟨es',eA⟩:=ZA.1 e1
      have bz: (μ.φ r').bB<μ.w.heap.size:=ez.bB (μ:=⟨μ.w,μ.φ,μ.O⟩) (ho.ok r' es' eA) e3
      have ig: ¬ (⟨μ.w,dz μ.φ ws,(enter au).O⟩:Mu).own (μ.φ r').bB:=fun hb=>by
       obtain⟨i,r2,k1,k2,k3,k4,k5⟩:=rV hp hb
       have bQ:r2≠r':=fun e'=>hA _ k1 (by rw[←e] ;exact congrArg A e')
       exact ho.inj r2 r' bQ k2 e1 k4 e3 k5
      exact(le.bR _ bz ig).2 (by rw[e4];exact fN)
    | some j=>
      obtain⟨t,hu⟩:=ht.w8 r' j e
      obtain⟨b1,b2⟩:=t.bB e3
      have hj:=hU j hu
      exact h1.inj j r Zl t.live.1 (by simp[aZ]) b1 gX (by rw[←b2];exact e4)
   ·exact h1.qY r (by simp[aZ]) gX (.inl Co)
theorem w9 {au:List V} {vals:List Value} {rs:List Nat} {ws:List c9} (ho:aP X μ) (hp:jy X μ r0 0 au vals rs ws) (pH:apart rs (ws.map (·.r))=true) (hd:distinct (ws.map (·.r))=true)
  (le:Le ⟨μ.w,dz μ.φ ws,(enter au).O⟩ μ1) (h1:aP ⟨X.toTrEnv,cp X μ rs ws,X.tok⟩ μ1) {res:eV} {refs:List Nat} {v0:V} {val:Value} {T':Nat→V} (hv:aj ⟨X.toTrEnv,cp X μ rs ws,X.tok⟩ μ1 v0 val)
  (Ue:cI au.length ⟨T',μ1.O⟩ v0 res.val refs) (X8:distinct refs=true) (H2:bS μ1.O 0 au=some res.outs) {aY:Bool} {r:Nat} {v:V} {σ':St}
  (ag: (if (res.val.isScalar || re r aY res.val) &&res.outs.all (fun o=>V.aR o.2) then dE ws res.outs fun gs=>db aY r gs res.val .done else cV rs (dE ws res.outs fun gs=>db aY r gs res.val .done)).run C ⟨T,μ.O⟩=some (v,σ')):
  σ'.T=T∧ ∃φ',aj X ⟨μ1.w,φ',σ'.O⟩ v val∧Le μ ⟨μ1.w,φ',σ'.O⟩∧aP X ⟨μ1.w,φ',σ'.O⟩:=by
 have hR:=Ue.Qa h1 hv
 have hi:=hp.inc
 have cE: ∀w ∈ ws,w.fresh=none→(μ1.O w.i).gen=0→μ1.φ w.i=μ.φ w.r:=fun w hw J0 hg=>by
  have Iy: ((enter au).O w.i).gen=0:=by
   rcases jb hp w.i with h| ⟨_,_,_,_,_,_,h,_⟩ | ⟨_,_,_,h,_⟩
   ·rw[h];rfl
   ·exact h
   ·exact h
  obtain⟨e1,_⟩:=le.row w.i (by rw[hg];exact Iy.symm)
  rw[e1]
  have:=gD (φ:=μ.φ) hi w hw
  rw[J0] at this
  exact this
 have start: ∀ (Of:Nat→Obj) (S:Nat→Prop),eh ⟨X.toTrEnv,cp X μ rs ws,X.tok⟩ ⟨μ.w,μ.φ,Of⟩ μ1 (fun j=>j< 0∧S j) (fun _=>none) μ.φ Of:=fun Of S=>
  ⟨fun _ _=> ⟨rfl,rfl⟩,fun _ _ e=>by simp at e,fun _ _ _ e=>by simp at e⟩
 split at ag
 ·rename_i VW
  simp only[Zt,aaH] at VW
  obtain⟨ij,qV⟩:=VW
  have hS: ∀w ∈ ws,∀es,(μ1.O w.i).es=some es→V.aR es=true:=fun w hw es he=>by
   obtain⟨g,es',k1,k2⟩:=H0 hp H2 w hw
   rw[he] at k1;injection k1 with k1;subst k1
   exact(Zx.1 qV) _ k2
  obtain⟨A,φ,O,gs,k1,k2,k3,k4,k5,k6⟩:=oJ (μf:=⟨μ.w,μ.φ,μ.O⟩) h1 cE rfl (fun _ _=>rfl) (S:=fun j=> ∀es,(μ1.O j).es=some es→V.aR es=true) hS hp H2 (start μ.O _) (fun w hw=>hw) (fun _ _=>rfl) hd ag
  obtain⟨b1,b2⟩:=rY ho hp le h1 (Of:=μ.O) ho (fun _ _=>rfl) k2 k3 k4 (fun j hj=> .inl hj.2)
  rcases ij with ij| ij
  rotate_left
  ·obtain⟨sz,xs,vM,Rg,X9⟩:=CN ij
   subst Rg
   rw[vM] at k1 hR
   have he:JX ⟨X.toTrEnv,cp X μ rs ws,X.tok⟩ μ1 au.length (.own sz xs) refs val:=by
    rcases hR with hR| ⟨vs,us,e,_⟩
    · cases hR with
      | cell h=>exact h
    ·exact nomatch e
   have yT:=JZ (n:=au.length) ho hp le h1 k2 k4 (fun j hj=>by have:=hj.1;omega) he X9
   simp only[db,gK,cN,V.aq,ZB,if_false] at k1
   obtain⟨rfl,rfl⟩:=aI k1
   exact⟨rfl,φ,yT,b1,b2⟩
  have ki:=jC ij
  unfold db at k1
  rw[if_pos ki] at k1
  obtain⟨rfl,rfl⟩:=aI k1
  exact⟨rfl,φ,iw (X:=⟨X.toTrEnv,cp X μ rs ws,X.tok⟩) (μ:=μ1) (X':=X) (μ':=⟨μ1.w,φ,O⟩) rfl ij (hR.pure ki),b1,b2⟩
 ·obtain⟨Of,f1,f2,f3,f4,f5⟩:=iv (X:=X) (w:=μ.w) (φ:=μ.φ) rs ho ag
  have K1: ∀w ∈ ws,Of w.r=μ.O w.r:=fun w hw=>f4 _ fun hr=>by
   have:=Zx.1 pH w.r (ZJ.2 ⟨w,hw,rfl⟩)
   simp[hr] at this
  obtain⟨A,φ,O,gs,k1,k2,k3,k4,k5,k6⟩:=oJ (μf:=⟨μ.w,μ.φ,Of⟩) h1 cE rfl K1 (S:=fun _=>True) (fun _ _=>trivial) hp H2 (start Of _) (fun w hw=>hw) (fun _ _=>rfl) hd f1
  obtain⟨hT,gg⟩:=tu h1 k2 k6 hR (fun j _ hn hu=>by have:=hu.1;omega) X8 k1
  have Qc: ∀ {U:Nat→Prop} {A:Nat→Option Nat} {φ:Nat→Row} {O:Nat→Obj},eh ⟨X.toTrEnv,cp X μ rs ws,X.tok⟩ ⟨μ.w,μ.φ,Of⟩ μ1 U A φ O→(∀w ∈ ws,A w.r≠none)→(∀j,U j→aY=true∨j<au.length)→
    ∀b,Own X ⟨μ1.w,φ,O⟩ b→after ⟨X.toTrEnv,cp X μ rs ws,X.tok⟩ μ1 au.length aY b:=by
   intro U A φ O ht hA hU b hb
   rcases hb with⟨r',q1,q2,q3,q4⟩ | hb
   ·simp only at q1 q2 q3 q4
    cases e:A r' with
    | none=>
      obtain⟨n1,n2⟩:=ht.AL r' e
      simp only at n1 n2
      rw[n1] at q1 q2;rw[n2] at q3 q4
      have tg:r' ∉ rs:=fun h=>by rw[f5 r' h] at q2;simp at q2
      have ov:r' ∉ ws.map (·.r):=fun h=>by
         obtain⟨w,hw,e'⟩:=ZJ.1 h
         exact hA w hw (by rw[e'];exact e)
      rw[f4 r' tg] at q1 q2
      exact .inl (.inr ⟨r',tg,ov,q1,q2,q3,q4⟩)
    | some j=>
      obtain⟨t,hu⟩:=ht.w8 r' j e
      obtain⟨b1,b2⟩:=t.bB q3
      exact .inr ⟨j,hU j hu,t.live.1,t.live.2,b1,by rw[←b2];exact q4⟩
   ·exact .inl (.inl hb)
  refine⟨hT,?_⟩
  rcases gg with⟨ki,rfl,hO,Ya⟩ | ⟨A',φ',m1,m2,m3,m4⟩
  ·have fN:=Qc k2 k4 (fun j hj=> .inr (by have:=hj.1;omega))
   have DT: ∀b,Own X ⟨μ1.w,φ,O⟩ b→Own ⟨X.toTrEnv,cp X μ rs ws,X.tok⟩ μ1 b:=fun b hb=>jc (φ:=φ) (O:=O) (.inr (fN b hb))
   obtain⟨b1,b2⟩:=rY ho hp le h1 (Of:=Of) f3 K1 k2 k3 k4 (fun j hj=> .inr DT)
   rw[hO]
   exact⟨φ,cT (X:=⟨X.toTrEnv,cp X μ rs ws,X.tok⟩) (μ:=μ1) (B:=X.KI) (μ':=⟨μ1.w,φ,O⟩) rfl DT ki Ya,f2.trans b1,b2⟩
  ·have VX: ∀w ∈ ws,A' w.r≠none:=fun w hw=>m3 _ (k4 w hw)
   have fN:=Qc m1 VX (fun j hj=>hj.elim (fun h=> .inr (by have:=h.1;omega)) fun h=> .inl h.1)
   have DT: ∀b,Own X ⟨μ1.w,φ',σ'.O⟩ b→Own ⟨X.toTrEnv,cp X μ rs ws,X.tok⟩ μ1 b:=fun b hb=>jc (φ:=φ') (O:=σ'.O) (.inr (fN b hb))
   obtain⟨b1,b2⟩:=rY ho hp le h1 (Of:=Of) f3 K1 m1 (k3.trans m2) VX (fun j hj=> .inr DT)
   refine⟨φ',weaken (X:=⟨X.toTrEnv,after ⟨X.toTrEnv,cp X μ rs ws,X.tok⟩ μ1 au.length aY,X.tok⟩) (μ:=quiet μ1 φ' σ'.O) (X':=X) (μ':=⟨μ1.w,φ',σ'.O⟩) rfl rfl rfl rfl (fun _=> ⟨rfl,rfl⟩) (fun b hb=> .inr (fN b hb)) m4,f2.trans b1,b2⟩
end
end Go.AM
namespace Go.AM
open Go Go.RowKit
section
variable {X:Ctx} {E:Env} {C:aQ} {o:Oper} {a:Go.Act} {T:Nat→V} {μ:Mu} {v:V} {σ':St}
theorem K4 {C:aQ} {act:Act}: ∀ {σ σ':St} {v:V},act.run C σ=some (v,σ')→σ'.T=σ.T:=by
 induction act with
 | done u=>intro σ σ' v h;obtain⟨_,rfl⟩:=aI h;rfl
 | fail=>intro σ σ' v h;exact absurd h ak
 | kq t k ih=>intro σ σ' v h;exact ih _ h
 | bn r k ih=>intro σ σ' v h;exact ih _ h
 | bl r o k ih=>intro σ σ' v h;have:=ih h;simpa using this
 | call f au k ih=>
   intro σ σ' v h
   simp only[Act.run] at h
   split at h
   ·exact ih _ h
   ·simp at h
theorem J1 {Y:Ctx} {μ:Mu} {W':World} (hg:μ.w.grownBy W' none) (ho:aP Y μ):Le μ ⟨W',μ.φ,μ.O⟩∧aP Y ⟨W',μ.φ,μ.O⟩:=by
 have hb: ∀k,k<μ.w.heap.size→W'.heap[k]? =μ.w.heap[k]? :=fun k hk=>hg.block k hk Zm
 have st:gC Y μ W':=na hg
 refine⟨⟨hg.size,fun b js hn=> ⟨hb b js,hn⟩,fun _=>Zy _,fun _ _=> ⟨rfl,rfl⟩,hg.os,hg.output,hg.tape,fun ad JS=>by simp only[World.frozen?,hb ad.block JS]⟩,?_⟩
 exact ho.bN st fun r h1 h2=>hb _ (yx ho h1 h2)
def yA (X:TrEnv) (F:FuncId) (h:List V→List V→Option (V×List V)):Prop:= ∀es au v es',h es au=some (v,es')→V.isScalar v=true∧V.aR es'=true∧
 ∀ (Y:Ctx) (μ:Mu) (b:Nat) (ents:Array MapEntry) (clock:Nat) (vals:List Value),Y.toTrEnv=X→μ.w.heap[b]? =some (.map ents clock)→im ents clock→ah Y μ es (ents.toList.map tk)→ah Y μ au vals→V.aR au=true→
  tq X.P ((callFunc F (Value.agg #[.map (some b)]::vals).toArray).run X.P μ.w) fun val w'=>aj Y μ v val∧μ.w.grownBy w' (some b)∧ ∃mb kl,w'.heap[b]? =some (.map mb kl)∧im mb kl∧ah Y μ es' (mb.toList.map tk)
theorem yB {μ:Mu} {r:Nat} {es es':List V} {v:V} {val:Value} {w':World} (ho:aP X μ) (aZ: (μ.O r).es=some es) (bM: (μ.O r).sz=0) (eB: (μ.O r).fz=false) (ij:V.isScalar v=true) (qV:V.aR es'=true)
  (hh: (μ.φ r).cap≠0) {ents:Array MapEntry} {clock:Nat} (hb:μ.w.heap[(μ.φ r).bB]? =some (.map ents clock)) (aV:ah X μ es (ents.toList.map tk)) (cD:im ents clock)
  (hv:aj X μ v val) (hg:μ.w.grownBy w' (some (μ.φ r).bB)) {mb:Array MapEntry} {kl:Nat} (js:w'.heap[(μ.φ r).bB]? =some (.map mb kl)) (MF:im mb kl) (DM:ah X μ es' (mb.toList.map tk)):
  aj X ⟨w',μ.φ,cC μ.O r {μ.O r with es:=some es'}⟩ v val∧Le μ ⟨w',μ.φ,cC μ.O r {μ.O r with es:=some es'}⟩∧aP X ⟨w',μ.φ,cC μ.O r {μ.O r with es:=some es'}⟩:=by
 obtain⟨Yb,KQ⟩:=eC ho r (es':=es') (ob':= .map mb kl) aZ eB bM hb hh (.inl ⟨ents,clock,rfl,aV,cD⟩) (.inl ⟨mb,kl,rfl,DM,MF⟩)
 have bz: (μ.φ r).bB<μ.w.heap.size:=(Zu.1 hb).1
 have EB: ({μ.w with heap:=μ.w.heap.set! (μ.φ r).bB (.map mb kl)}:World).grownBy w' none:=by
  refine⟨hg.os,hg.tape,hg.output,by simpa using hg.size,fun k hk _=> ?_⟩
  by_cases e:k=(μ.φ r).bB
  ·subst e
   rw[js];simp[aas,bz]
  ·have Yc:k<μ.w.heap.size:=by simpa using hk
   rw[hg.block k Yc (by simp;omega)]
   simp[aas,Ne.symm e]
 obtain⟨Cr,KO⟩:=J1 (μ:=⟨{μ.w with heap:=μ.w.heap.set! (μ.φ r).bB (.map mb kl)},μ.φ,cC μ.O r {μ.O r with es:=some es'}⟩) EB KQ
 exact⟨iw rfl ij hv,Yb.trans Cr,KO⟩
theorem nO {h:Rel X T a μ} (O:Nat→Obj): ∀ {xs:List Operand} {ys:List aD},kK X xs=some ys→ah X μ (ys.map (aT ⟨T,O⟩)) (xs.map a.eval)
 | [],ys,e=>by simp[kK] at e;subst e;simp[ah]
 | x::xs,ys,e=>by
   simp only[kK] at e
   split at e
   ·rename_i y RA h1 h2
    injection e with e;subst e
    simp only[List.map_cons,ah]
    exact⟨aC h h1 O,nO (h:=h) O h2⟩
   ·simp at e
theorem H3 (hC: ∀f F au res,X.eT F=some f→C f au=some res→bJ X.toTrEnv F au res) (hM: ∀f F h,E.xl f=some h→X.eT F=some f→yA X.toTrEnv F h) {h:Hints} {dst:Nat} {c:Call} {nV:qS} (hr:Rel X T a μ) (ho:o.op= .call c) (az:uH X h dst c=some nV) (Cv:nV.gB=true)
  (ag: (av E nV).run C ⟨T,μ.O⟩=some (v,σ')):σ'.T=T∧ ∀ (next:Go.Act→World→Prop) (Q:Go.Exit→Go.Act→World→Prop),
  (∀val w' φ',aj X ⟨w',φ',σ'.O⟩ v val→Le μ ⟨w',φ',σ'.O⟩→aP X ⟨w',φ',σ'.O⟩→next (a.put o.dst val) w')→o.wp X.P a μ.w next Q:=by
 unfold uH at az
 split at az
 ·rename_i f MG
  split at az
  ·rename_i f' Mn hf has
   injection az with az;subst az
   simp only[av,aU] at ag
   split at ag
   ·rename_i f0 caps IV
    rw[lL] at ag
    have J0:=aC hr hf μ.O
    rw[IV] at J0
    simp only[aj] at J0
    obtain⟨F,cv,hF,E7,qI⟩:=J0
    have ia:=(nO (h:=hr) μ.O has).append qI
    simp only[jg] at ag
    obtain⟨au,rs,ws,h1,hp⟩:=dp hr.aS ia ag
    split at h1
    ·rename_i qC
     simp only[Zt] at qC
     obtain⟨pH,hd⟩:=qC
     simp only[Act.run] at h1
     split at h1
     ·rename_i res gg
      have hS:=hC f0 F au res E7 gg
      obtain⟨e1,e2,e3⟩:=sW hr.aS hp pH hd
      have hU:=hS (cp X μ rs ws) X.tok μ.w (dz μ.φ ws) _ e1 e2 e3
      have fZ: (execOp a.eval o).run X.P μ.w=(callFunc F (List.map a.eval c.args.toList++cv.toList).toArray).run X.P μ.w:=by
       have Qd: (c.args.map a.eval)++cv=(List.map a.eval c.args.toList++cv.toList).toArray:=by
        apply aaq.1;simp
       simp only[execOp,ho,resolve,MG,hF,Deferred.ofValue,Sem.run_bind]
       rw[←Qd]
       simp[invoke,Sem.run]
      have key: ∀val w',(∃φ' T' O' v0 refs,Le ⟨μ.w,dz μ.φ ws,(enter au).O⟩ ⟨w',φ',O'⟩∧aP ⟨X.toTrEnv,cp X μ rs ws,X.tok⟩ ⟨w',φ',O'⟩∧
        aj ⟨X.toTrEnv,cp X μ rs ws,X.tok⟩ ⟨w',φ',O'⟩ v0 val∧cI au.length ⟨T',O'⟩ v0 res.val refs∧distinct refs=true∧bS O' 0 au=some res.outs)→
        σ'.T=T∧ ∃φ',aj X ⟨w',φ',σ'.O⟩ v val∧Le μ ⟨w',φ',σ'.O⟩∧aP X ⟨w',φ',σ'.O⟩:=by
       rintro val w' ⟨φ',T',O',v0,refs,k1,k2,k3,k4,k5,k6⟩
       exact w9 hr.aS hp pH hd k1 k2 k3 k4 k5 k6 h1
      have Uf:σ'.T=T:=K4 h1
      refine⟨Uf,fun next Q hn=> ?_⟩
      unfold Oper.wp
      rw[fZ]
      exact hU.upon fun val w' hv=>by
       obtain⟨_,φ',q1,q2,q3⟩:=key val w' hv
       exact hn val w' φ' q1 q2 q3
     ·simp at h1
    ·exact absurd h1 ak
   ·rename_i f0 caps IV
    rw[lL] at ag
    have J0:=aC hr hf μ.O
    rw[IV] at J0
    simp only[aj] at J0
    obtain⟨F,cv,hF,E7,qI⟩:=J0
    split at ag
    ·rename_i r' g' Yd hrecv Ye
     have Yf:caps=[.agg [.mp r' g']]:=by
      unfold xt at hrecv
      split at hrecv
      ·simp only[Zr,Zw] at hrecv;obtain⟨rfl,rfl⟩:=hrecv;rfl
      ·simp at hrecv
     subst Yf
     simp only[C9,Act.run] at ag
     split at ag
     ·rename_i es aZ
      split at ag
      ·rename_i Ug
       obtain⟨bP,bM,eB,Yg,Tb⟩:=Ug
       split at ag
       ·rename_i u es' hh
        simp only[Act.run,Zr,Zw] at ag
        obtain⟨rfl,rfl⟩:=ag
        obtain⟨ij,qV,Yh⟩:=hM f0 F Yd Ye E7 es _ u es' hh
        have ia:=nO (h:=hr) μ.O has
        obtain⟨Yi,Rh⟩: ∃l,cv.toList=l:=⟨_,rfl⟩
        rw[Rh] at qI
        match Yi,qI with
        |   [rv],qI=>
            simp only[ah,aj,and_true] at qI
            obtain⟨_,vs,rfl,la⟩:=qI
            obtain⟨Yj,yR⟩: ∃l,vs.toList=l:=⟨_,rfl⟩
            rw[yR] at la
            match Yj,la with
            | [mv],la=>
              simp only[ah,aj,and_true] at la
              obtain⟨b,rfl,mf,bq⟩:=la
              obtain⟨_,rfl⟩:=bq bP
              obtain⟨b7,ents,clock,hm,aV,cD⟩: (μ.φ r').cap≠0∧ ∃ents clock,μ.w.heap[(μ.φ r').bB]? =some (.map ents clock)∧ah X μ es (ents.toList.map tk)∧im ents clock:=by
                rcases hr.aS.ents r' es aZ bM with h| ⟨_,s,pos,_,rfl⟩ | ⟨kp,rfl⟩
                ·exact h
                ·simp[V.isTuple] at Tb
                ·simp[V.isTuple] at Tb
              have hU:=Yh X μ (μ.φ r').bB ents clock _ rfl hm cD aV ia Yg
              have fZ: (execOp a.eval o).run X.P μ.w=(callFunc F (Value.agg #[.map (some (μ.φ r').bB)]::List.map a.eval c.args.toList).toArray).run X.P μ.w:=by
                have Uh:vs= #[.map (some (μ.φ r').bB)]:=aaq.1 (by rw[yR])
                have Ui:cv= #[.agg #[.map (some (μ.φ r').bB)]]:=aaq.1 (by rw[Rh,Uh])
                have Qd:cv++(c.args.map a.eval)=(Value.agg #[.map (some (μ.φ r').bB)]::List.map a.eval c.args.toList).toArray:=by
                 apply aaq.1;rw[Ui];simp
                simp only[execOp,ho,resolve,MG,hF,Deferred.ofValue,Sem.run_bind]
                rw[←Qd]
                simp[invoke,Sem.run]
              refine⟨rfl,fun next Q hn=> ?_⟩
              unfold Oper.wp
              rw[fZ]
              exact hU.upon fun val w' hv=>by
                obtain⟨v1,v2,mb,kl,v3,v4,v5⟩:=hv
                obtain⟨q1,q2,q3⟩:=yB hr.aS aZ bM eB ij qV b7 hm aV cD v1 v2 v3 v4 v5
                exact hn val w' μ.φ q1 q2 q3
       ·exact absurd ag ak
      ·exact absurd ag ak
     ·exact absurd ag ak
    ·have ia:=qI.append (nO (h:=hr) μ.O has)
     simp only[jg] at ag
     obtain⟨au,rs,ws,h1,hp⟩:=dp hr.aS ia ag
     split at h1
     ·rename_i qC
      simp only[Zt] at qC
      obtain⟨pH,hd⟩:=qC
      simp only[Act.run] at h1
      split at h1
      ·rename_i res gg
       have hS:=hC f0 F au res E7 gg
       obtain⟨e1,e2,e3⟩:=sW hr.aS hp pH hd
       have hU:=hS (cp X μ rs ws) X.tok μ.w (dz μ.φ ws) _ e1 e2 e3
       have fZ: (execOp a.eval o).run X.P μ.w=(callFunc F (cv.toList++List.map a.eval c.args.toList).toArray).run X.P μ.w:=by
        have Qd:cv++(c.args.map a.eval)=(cv.toList++List.map a.eval c.args.toList).toArray:=by
            apply aaq.1;simp
        simp only[execOp,ho,resolve,MG,hF,Deferred.ofValue,Sem.run_bind]
        rw[←Qd]
        simp[invoke,Sem.run]
       have key: ∀val w',(∃φ' T' O' v0 refs,Le ⟨μ.w,dz μ.φ ws,(enter au).O⟩ ⟨w',φ',O'⟩∧aP ⟨X.toTrEnv,cp X μ rs ws,X.tok⟩ ⟨w',φ',O'⟩∧
            aj ⟨X.toTrEnv,cp X μ rs ws,X.tok⟩ ⟨w',φ',O'⟩ v0 val∧cI au.length ⟨T',O'⟩ v0 res.val refs∧distinct refs=true∧bS O' 0 au=some res.outs)→
            σ'.T=T∧ ∃φ',aj X ⟨w',φ',σ'.O⟩ v val∧Le μ ⟨w',φ',σ'.O⟩∧aP X ⟨w',φ',σ'.O⟩:=by
        rintro val w' ⟨φ',T',O',v0,refs,k1,k2,k3,k4,k5,k6⟩
        exact w9 hr.aS hp pH hd k1 k2 k3 k4 k5 k6 h1
       have Uf:σ'.T=T:=K4 h1
       refine⟨Uf,fun next Q hn=> ?_⟩
       unfold Oper.wp
       rw[fZ]
       exact hU.upon fun val w' hv=>by
        obtain⟨_,φ',q1,q2,q3⟩:=key val w' hv
        exact hn val w' φ' q1 q2 q3
      ·simp at h1
     ·exact absurd h1 ak
   ·exact absurd ag ak
  ·simp at az
 ·simp at az
 ·rename_i b hc
  exfalso
  revert az
  split<;> (try split) <;> (try split) <;> (try split) <;>simp<;> (try (intro e;subst e;simp[qS.gB] at Cv)) <;> (try (intros;subst_vars;simp[qS.gB] at Cv)) <;> (try (rintro rfl;simp[qS.gB] at Cv))
  all_goals (split at Cv<;>first| (simp at Cv;done) | (split at Cv<;>simp at Cv) | (rename_i h9;split at h9<;>simp at h9) | (rename_i h9;unfold JF at h9; (repeat' split at h9) <;>simp at h9))
theorem yC {op:BinOp} {t:TypeId} {x y:aD} {nV:qS} (h:DH X op t x y=some nV):nV.gB=false:=by
 unfold DH at h
 repeat' split at h
 all_goals first
  | (injection h with h;subst h;rfl)
  | (simp only[Zq] at h;obtain⟨_,_,rfl⟩:=h;rfl)
  | (simp at h;done)
theorem pC {α:Type} {x:Option α} {f:α→qS} {nV:qS} (h:x.map f=some nV) (hf: ∀a,(f a).gB=false):nV.gB=false:=by
 cases x with
 | none=>simp at h
 | some a=>simp at h;subst h;exact hf a
theorem vN {h:Hints} {dst:Nat} {x:Operand} {nV:qS} (ht:uG X h dst x=some nV):nV.gB=false:=by
 unfold uG at ht
 split at ht
 ·injection ht with ht;subst ht;rfl
 ·split at ht
  ·exact pC ht fun _=>rfl
  ·exact pC ht fun _=>rfl
theorem AO {h:Hints} {dst:Nat} {op:Op} {nV:qS} (hn: ∀c,op≠ .call c) (az:vF X h dst op=some nV):nV.gB=false:=by
 unfold vF at az
 split at az
 all_goals try exact absurd rfl (hn _)
 all_goals
  repeat' split at az
  all_goals first
   | (injection az with az;subst az;rfl)
   | (injection az with az;subst az;split<;>rfl)
   | exact pC az fun _=>rfl
   | exact yC az
   | exact vN az
   | (exfalso;simp at az;done)
theorem H4 (Az: ∀t1 t2 k,X.rK t1=some k→X.rK t2=some k→t1=t2) (hC: ∀f F au res,X.eT F=some f→C f au=some res→bJ X.toTrEnv F au res) (hM: ∀f F h,E.xl f=some h→X.eT F=some f→yA X.toTrEnv F h):oF X E C:=by
 intro h dst o nV a T μ v σ' hr az ag
 cases hc:nV.gB with
 | true=>
   cases dm:o.op with
   | call c=>
     rw[dm] at az
     simp only[vF] at az
     exact H3 hC hM hr dm az hc ag
   | _=>
     have:=AO (by rw[dm];simp) az
     rw[this] at hc;simp at hc
 | false=>
   obtain⟨hT,val,w',φ',AP,h1,h2,h3⟩:=HJ Az hr az hc ag
   refine⟨hT,fun next Q hn=> ?_⟩
   unfold Oper.wp
   rcases AP with AP| ⟨AP,rfl⟩
   ·rw[AP];exact hn _ _ _ h1 h2 h3
   ·rw[AP];exact hn _ _ _ h1 h2 h3
end
end Go.AM
namespace Go.AM
open Go Go.RowKit
theorem lP: ∀l:List V,V.erases l=l.map V.erase
 | []=>rfl
 | v::vs=>by simp only[V.erases,List.map_cons,lP vs]
theorem cU (l:List V): (V.erases l).length=l.length:=by rw[lP];simp
theorem qN (v:V):v.erase.aF=v.aF:=by cases v<;>rfl
theorem AQ (v:V):v.erase.isAgg=v.isAgg:=by cases v<;>rfl
theorem jD (v:V):v.erase.cq=v.cq:=by unfold V.cq;rw[AQ,qN]
theorem AR (v:V):v.erase.cells=V.erases v.cells:=by cases v<;>rfl
theorem vO (v:V) (sz:Nat):aJ v.erase sz=aJ v sz:=by unfold aJ;rw[AR,cU,jD]
theorem jE {p:V→Bool} (hp: ∀v,p v.erase=p v): ∀l:List V,(V.erases l).all p=l.all p
 | []=>rfl
 | v::vs=>by simp only[V.erases,aad,hp,jE hp vs]
mutual
theorem dO: ∀v:V,v.erase.aq=v.aq
 | .agg cs=>by simp only[V.erase,V.aq];exact bO cs
 | .tuple cs=>by simp only[V.erase,V.aq];exact bO cs
 | .mlit es=>by simp only[V.erase,V.aq];exact bO es
 | .fn f cs=>by simp only[V.erase,V.aq];exact bO cs
 | .bfn f cs=>by simp only[V.erase,V.aq];exact bO cs
 | .iface t v=>by simp only[V.erase,V.aq];exact dO v
 | .litk .. | .epk .. | .lit .. | .own .. | .eptr .. | .msl .. | .mptr .. | .bool _| .int .. | .float _| .str _| .nilp| .nilfn| .nili| .nils| .sl .. | .ptr .. | .mp .. | .it .. | .any=>rfl
theorem bO: ∀l:List V,V.al (V.erases l)=V.al l
 | []=>rfl
 | v::vs=>by simp only[V.erases,V.al,dO v,bO vs]
end
theorem km (es:List V) (off len:Nat):aw (V.erases es) off len=V.erases (aw es off len):=by
 simp only[aw,lP,List.map_take,List.map_drop]
section
variable {X X':Ctx} {μ μ':Mu}
mutual
theorem aj.erase (hX:X'.toTrEnv=X.toTrEnv) (hw:μ'.w=μ.w) (hφ:μ'.φ=μ.φ) (hO: ∀r,(μ'.O r).gen=(μ.O r).gen∧(μ'.O r).sz=(μ.O r).sz) (ho: ∀b,Own X' μ' b→Own X μ b): ∀ {x:V} {v:Value},aj X μ x v→aj X' μ' x.erase v
 | .bool _,_,h| .int ..,_,h| .float _,_,h| .str _,_,h| .nilp,_,h| .nilfn,_,h| .nili,_,h| .nils,_,h=>by simpa [V.erase,aj] using h
 | .any,_,_=>by simp[V.erase,aj]
 | .own ..,_,h| .msl ..,_,h| .mptr ..,_,h=>by simp[aj] at h
 | .agg cs,_,h=>by
   simp only[V.erase,aj] at h ⊢
   obtain⟨h1,vs,rfl,h2⟩:=h
   exact⟨by rw[jE qN];exact h1,vs,rfl,ah.erase hX hw hφ hO ho h2⟩
 | .tuple cs,_,h=>by
   simp only[V.erase,aj] at h ⊢
   obtain⟨vs,rfl,h2⟩:=h
   exact⟨vs,rfl,ah.erase hX hw hφ hO ho h2⟩
 | .bfn f cs,_,h=>by
   simp only[V.erase,aj] at h ⊢
   obtain⟨F,cv,rfl,h1,h2⟩:=h
   exact⟨F,cv,rfl,by rw[hX];exact h1,ah.erase hX hw hφ hO ho h2⟩
 | .fn f cs,_,h=>by
   simp only[V.erase,aj] at h ⊢
   obtain⟨F,cv,rfl,h1,h2⟩:=h
   exact⟨F,cv,rfl,by rw[hX];exact h1,ah.erase hX hw hφ hO ho h2⟩
 | .iface t x,_,h=>by
   simp only[V.erase,aj] at h ⊢
   obtain⟨F,y,rfl,h1,h2⟩:=h
   exact⟨F,y,rfl,by rw[hX];exact h1,aj.erase hX hw hφ hO ho h2⟩
 | .lit sz xs,_,h=>by
   simp only[V.erase,aj] at h ⊢
   obtain⟨h0,jJ,a,cap,vs,rfl,h1,h2,h3⟩:=h
   refine⟨by rw[bO];exact h0,by rw[jE jD];exact jJ,a,cap,vs,by rw[cU],by rw[cU];exact h1,ah.erase hX hw hφ hO ho h2,h3.imp (fun h=>by rw[h];rfl) ?_⟩
   rintro⟨b,o,rfl,hb,hs,hr⟩
   exact⟨b,o,rfl,fun hh=>hb (ho b hh),by rw[hw];exact hs,by rw[hw];exact hr⟩
 | .litk sz xs,_,h=>by
   simp only[V.erase,aj] at h ⊢
   obtain⟨h0,jJ,a,cap,vs,rfl,h1,h2,h3⟩:=h
   refine⟨by rw[bO];exact h0,by rw[jE jD];exact jJ,a,cap,vs,by rw[cU],by rw[cU];exact h1,ah.erase hX hw hφ hO ho h2,h3.imp (fun h=>by rw[h];rfl) ?_⟩
   rintro⟨rfl,hb,hs,hr⟩
   exact⟨_,_,rfl,fun hh=>hb (ho _ hh),by rw[hw];exact hs,by rw[hw];exact hr⟩
 | .sl r g off len,_,h=>by
   simp only[V.erase,aj] at h ⊢
   rw[hφ,(hO r).1,(hO r).2];exact h
 | .ptr r g idx off,_,h=>by
   simp only[V.erase,aj] at h ⊢
   rw[hφ,(hO r).1,(hO r).2];exact h
 | .eptr e off,_,h=>by
   simp only[V.erase,aj] at h ⊢
   obtain⟨h0,jJ,b,o,sz,x,rfl,hb,hs,h1,hr⟩:=h
   exact⟨by rw[dO];exact h0,by rw[jD];exact jJ,b,o,sz,x,rfl,fun hh=>hb (ho b hh),by rw[hw];exact hs,aj.erase hX hw hφ hO ho h1,by rw[hw];exact hr⟩
 | .epk i sz e off,_,h=>by
   simp only[V.erase,aj] at h ⊢
   obtain⟨h0,jJ,x,rfl,hb,hs,h1,hr⟩:=h
   exact⟨by rw[dO];exact h0,by rw[jD];exact jJ,_,X.tok.2+i*sz,sz,x,rfl,fun hh=>hb (ho _ hh),by rw[hw];exact hs,aj.erase hX hw hφ hO ho h1,by rw[hw];exact hr⟩
 | .mp r g,_,h| .it r g,_,h=>by
   simp only[V.erase,aj] at h ⊢
   rw[hφ,(hO r).1,(hO r).2];exact h
 | .mlit es,_,h=>by
   simp only[V.erase,aj] at h ⊢
   obtain⟨h0,h⟩:=h
   refine⟨by rw[bO];exact h0,h.imp (fun h=> ⟨by rw[h.1];rfl,h.2⟩) ?_⟩
   rintro⟨a,ents,clock,rfl,hb,hs,h1,h2⟩
   exact⟨a,ents,clock,rfl,fun hh=>hb (ho a hh),by rw[hw];exact hs,by rw[hw];exact h1,ah.erase hX hw hφ hO ho h2⟩
theorem ah.erase (hX:X'.toTrEnv=X.toTrEnv) (hw:μ'.w=μ.w) (hφ:μ'.φ=μ.φ) (hO: ∀r,(μ'.O r).gen=(μ.O r).gen∧(μ'.O r).sz=(μ.O r).sz) (ho: ∀b,Own X' μ' b→Own X μ b): ∀ {xs:List V} {vs:List Value},ah X μ xs vs→ah X' μ' (V.erases xs) vs
 | [],[],_=>by simp[V.erases,ah]
 | [],_::_,h=>by simp[ah] at h
 | _::_,[],h=>by simp[ah] at h
 | x::xs,v::vs,h=>by
   simp only[V.erases,ah] at h ⊢
   exact⟨aj.erase hX hw hφ hO ho h.1,ah.erase hX hw hφ hO ho h.2⟩
end
end
def cS (O:Nat→Obj):Nat→Obj:=fun r=> {O r with es:=(O r).es.map V.erases}
section
variable {X:TrEnv} {B:Nat→Prop} {K K':Nat×Nat} {w:World} {φ:Nat→Row} {O:Nat→Obj}
theorem lQ {b:Nat}: (Mu.mk w φ (cS O)).own b↔(Mu.mk w φ O).own b:=by
 simp only[Mu.own,cS,Option.isSome_map]
theorem xa {x:V} {v:Value} (h:aj ⟨X,B,K⟩ ⟨w,φ,O⟩ x v):aj ⟨X,B,K'⟩ ⟨w,φ,cS O⟩ x.erase v:=
 aj.erase (X:=⟨X,B,K⟩) (X':=⟨X,B,K'⟩) (μ:=⟨w,φ,O⟩) (μ':=⟨w,φ,cS O⟩) rfl rfl rfl (fun _=> ⟨rfl,rfl⟩) (fun b hb=>hb.imp lQ.1 id) h
theorem pD {xs:List V} {vs:List Value} (h:ah ⟨X,B,K⟩ ⟨w,φ,O⟩ xs vs):ah ⟨X,B,K'⟩ ⟨w,φ,cS O⟩ (V.erases xs) vs:=
 ah.erase (X:=⟨X,B,K⟩) (X':=⟨X,B,K'⟩) (μ:=⟨w,φ,O⟩) (μ':=⟨w,φ,cS O⟩) rfl rfl rfl (fun _=> ⟨rfl,rfl⟩) (fun b hb=>hb.imp lQ.1 id) h
theorem sZ (h:aP ⟨X,B,K⟩ ⟨w,φ,O⟩):aP ⟨X,B,K'⟩ ⟨w,φ,cS O⟩ where
 ok:=fun r es aZ=>by
  simp only[cS,Zq] at aZ
  obtain⟨kp,H5,rfl⟩:=aZ
  rcases h.ok r kp H5 with⟨h1,h2,h3,h4⟩ | ⟨h1,h2,ob,h3,h4⟩
  ·refine .inl ⟨h1,by rw[cU];exact h2,by rw[jE (fun v=>vO v _)];exact h3,h4.imp id ?_⟩
   rintro⟨c,T,vs,k1,k2,k3,k4⟩
   exact⟨c,T,vs,k1,k2,pD k3,k4⟩
  ·refine .inr ⟨h1,h2,ob,h3,?_⟩
   rcases h4 with⟨ents,clock,k1,k2,k3⟩ | ⟨s,pos,k1,k2⟩ | ⟨mo,since,Yk,k1,k2,k3⟩
   ·exact .inl ⟨ents,clock,k1,pD k2,k3⟩
   ·exact .inr (.inl ⟨s,pos,k1,by rw[k2];rfl⟩)
   ·refine .inr (.inr ⟨mo,since,V.erases Yk,k1,by rw[k2];rfl,k3.imp (fun h=> ⟨h.1,by rw[h.2];rfl⟩) ?_⟩)
    rintro⟨m,ents,l1,l2,l3,l4,l5,l6⟩
    exact⟨m,ents,l1,fun hh=>l2 (hh.imp lQ.1 id),l3,l4,l5,pD l6⟩
 inj:=fun r r' bQ h1 h2 h3 h4=>h.inj r r' bQ (by simpa [cS] using h1) (by simpa [cS] using h2) h3 h4
 qY:=fun r h1 h2=>h.qY r (by simpa [cS] using h1) h2
 blt:=h.blt
theorem kY {n:Nat} {T T':Nat→V} {c c':V} {rs:List Nat} (h:bT n ⟨T,O⟩ c=some (c',rs)):bT n ⟨T',cS O⟩ c.erase=some (c'.erase,rs):=by
 have other: (∀r g off len,c≠ .sl r g off len)→c.aq=true→c'=c∧rs=[]→bT n ⟨T',cS O⟩ c.erase=some (c'.erase,rs):=by
  rintro Qe hp ⟨rfl,rfl⟩
  have Bd:c'.erase.aq=true:=by rw[dO];exact hp
  cases c'<;>first| exact absurd rfl (Qe _ _ _ _) | (simp only[V.erase] at Bd ⊢;simp only[bT,Bd,if_true])
 unfold bT at h
 split at h
 ·rename_i r g off len
  simp only[V.erase,bT]
  split at h
  ·rename_i es aZ
   have eA: (cS O r).es=some (V.erases es):=by
    have: (O r).es=some es:=aZ
    simp only[cS,this,ZE]
   simp only[eA]
   split at h
   ·rename_i hc
    have CZ: (cS O r).gen=g∧off+len≤(V.erases es).length∧(cS O r).arr=true∧V.al (aw (V.erases es) off len)=true:=
     ⟨hc.1,by rw[cU];exact hc.2.1,hc.2.2.1,by rw[km,bO];exact hc.2.2.2⟩
    rw[if_pos CZ]
    split at h
    ·rename_i hr
     rw[if_pos hr]
     simp only[Zr,Zw] at h
     obtain⟨rfl,rfl⟩:=h;rfl
    ·rename_i hr
     rw[if_neg hr]
     split at h
     ·rename_i hf
      rw[if_pos (show (cS O r).fz=true from hf)]
      simp only[Zr,Zw] at h
      obtain⟨rfl,rfl⟩:=h
      simp only[V.erase,km]
      rfl
     ·rename_i hf
      rw[if_neg (show ¬ (cS O r).fz=true from hf)]
      simp only[Zr,Zw] at h
      obtain⟨rfl,rfl⟩:=h
      simp only[V.erase,km]
      rfl
   ·simp at h
  ·simp at h
 ·rename_i Qe
  split at h
  ·rename_i hp
   simp only[Zr,Zw] at h
   obtain⟨rfl,rfl⟩:=h
   exact other (fun r g off len e=>Qe r g off len e) hp ⟨rfl,rfl⟩
  ·simp at h
theorem fU {n:Nat} {T T':Nat→V}: ∀ {cs b6:List V} {rs:List Nat},bK n ⟨T,O⟩ cs=some (b6,rs)→bK n ⟨T',cS O⟩ (V.erases cs)=some (V.erases b6,rs)
 | [],b6,rs,h=>by
   simp only[bK,Zr,Zw] at h
   obtain⟨rfl,rfl⟩:=h;rfl
 | c::cs,b6,rs,h=>by
   simp only[bK] at h
   split at h
   ·rename_i c1 r1 NR MD h1 h2
    simp only[Zr,Zw] at h
    obtain⟨rfl,rfl⟩:=h
    simp only[V.erases,bK,kY (T':=T') h1,fU h2]
   ·simp at h
theorem oL {n:Nat} {T T':Nat→V} {v v':V} {rs:List Nat} (h:dg n ⟨T,O⟩ v=some (v',rs)):dg n ⟨T',cS O⟩ v.erase=some (v'.erase,rs):=by
 unfold dg at h
 split at h
 ·rename_i hp
  simp only[Zr,Zw] at h
  obtain⟨rfl,rfl⟩:=h
  simp only[dg,dO,hp,if_true]
 ·rename_i hp
  have Bd: ¬v.erase.aq=true:=by rw[dO];exact hp
  unfold dg
  rw[if_neg Bd]
  split at h
  ·rename_i cs
   split at h
   ·rename_i NR MD h1
    simp only[Zr,Zw] at h
    obtain⟨rfl,rfl⟩:=h
    simp only[V.erase,fU (T':=T') h1]
   ·simp at h
  ·rename_i f cs
   split at h
   ·rename_i NR MD h1
    split at h
    ·rename_i hc
     simp only[Zr,Zw] at h
     obtain⟨rfl,rfl⟩:=h
     simp only[V.erase,fU (T':=T') h1,bO,hc,if_true]
    ·simp at h
   ·simp at h
  ·rename_i h1 h2
   have:=kY (T':=T') h
   cases v<;>first| exact absurd rfl (h1 _) | exact absurd rfl (h2 _ _) | exact this
theorem nj {n:Nat} {T T':Nat→V}: ∀ {cs b6:List V} {rs:List Nat},cF n ⟨T,O⟩ cs=some (b6,rs)→cF n ⟨T',cS O⟩ (V.erases cs)=some (V.erases b6,rs)
 | [],b6,rs,h=>by
   simp only[cF,Zr,Zw] at h
   obtain⟨rfl,rfl⟩:=h;rfl
 | c::cs,b6,rs,h=>by
   simp only[cF] at h
   split at h
   ·rename_i c1 r1 NR MD h1 h2
    simp only[Zr,Zw] at h
    obtain⟨rfl,rfl⟩:=h
    simp only[V.erases,cF,oL (T':=T') h1,nj h2]
   ·simp at h
theorem cI.erase {n:Nat} {T T':Nat→V} {v0 v:V} {rs:List Nat} (h:cI n ⟨T,O⟩ v0 v rs):cI n ⟨T',cS O⟩ v0.erase v.erase rs:=by
 cases h with
 | one h=>exact .one (oL h)
 | many h=>simp only[V.erase];exact .many (nj h)
end
theorem CO {v:V} (h:v.aq=true): (uh v).aq=true:=by
 unfold uh;split
 ·rfl
 ·exact h
theorem qO (v:V): (uh v).aF=v.aF:=by
 unfold uh;split<;>rfl
section
variable {X:TrEnv} {B:Nat→Prop} {K:Nat×Nat} {μ:Mu}
theorem Fa (c:Nat) {x:V} {v:Value} (hx: ∀K,aj ⟨X,B,K⟩ μ x v): ∃K,aj ⟨X,B,K⟩ μ (zf c x) v:=by
 unfold zf
 split
 ·rename_i cs
  by_cases hc: ∃sz xs,cs[c]? =some (.lit sz xs)∧xs≠[]
  ·obtain⟨sz,xs,mD,bQ⟩:=hc
   obtain⟨h1,vs,rfl,h2⟩:cs.all V.aF=true∧ ∃vs,v= .agg vs∧ah ⟨X,B,(0,0)⟩ μ cs vs.toList:=by have:=hx (0,0);simpa only[aj] using this
   obtain⟨u,hu,aV⟩:=h2.get mD
   simp only[aj] at aV
   obtain⟨k0,NS,a,cap,us,rfl,k1,k2,k3⟩:=aV
   obtain⟨b,o,rfl,k4,k5,k6⟩:=k3.resolve_left bQ
   refine⟨(b,o),?_⟩
   have BE:ah ⟨X,B,(b,o)⟩ μ cs vs.toList:=by
    have:=hx (b,o)
    simp only[aj] at this
    obtain⟨_,vs',e,h⟩:=this
    injection e with e;subst e;exact h
   simp only[aj]
   refine⟨?_,vs,rfl,?_⟩
   ·rw[Zx] at h1 ⊢
    intro y hy
    obtain⟨i,hi⟩:=ZS.1 hy
    rw[ZV,aau,Zq] at hi
    obtain⟨z,hz,rfl⟩:=hi
    have IG:=h1 z (List.mem_of_getElem? hz)
    split
    ·rw[qO];exact IG
    ·exact IG
   ·refine ah.uJ (by rw[List.length_modify];exact BE.length) fun i y u' hy Cg=> ?_
    rw[ZV,aau,Zq] at hy
    obtain⟨z,hz,rfl⟩:=hy
    obtain⟨u2,J2,ov⟩:=BE.get hz
    rw[Cg] at J2;injection J2 with J2;subst J2
    by_cases KN:c=i
    ·subst KN
     rw[if_pos rfl]
     rw[mD] at hz;injection hz with hz;subst hz
     rw[hu] at Cg;injection Cg with Cg;subst Cg
     simp only[uh,aj]
     simp only[aj] at ov
     obtain⟨_,_,a',EE,IF,e,_,m2,m3⟩:=ov
     injection e with e1 e2 e3
     subst e1;subst e3
     refine⟨k0,NS,_,cap,IF,rfl,k1,m2,.inr ⟨rfl,k4,k5,?_⟩⟩
     rcases m3 with m3| ⟨b',o',e,_,_,m⟩
     ·exact absurd m3 bQ
     ·simp only[Zr,Addr.mk.injEq,and_true] at e
      obtain⟨rfl,rfl⟩:=e
      exact m
    ·rw[if_neg KN];exact ov
  ·refine⟨(0,0),?_⟩
   have h0:=hx (0,0)
   simp only[aj] at h0 ⊢
   obtain⟨h1,vs,rfl,h2⟩:=h0
   refine⟨?_,vs,rfl,?_⟩
   ·rw[Zx] at h1 ⊢
    intro y hy
    obtain⟨i,hi⟩:=ZS.1 hy
    rw[ZV,aau,Zq] at hi
    obtain⟨z,hz,rfl⟩:=hi
    have IG:=h1 z (List.mem_of_getElem? hz)
    split
    ·rw[qO];exact IG
    ·exact IG
   ·refine ah.uJ (by rw[List.length_modify];exact h2.length) fun i y u' hy Cg=> ?_
    rw[ZV,aau,Zq] at hy
    obtain⟨z,hz,rfl⟩:=hy
    obtain⟨u2,J2,ov⟩:=h2.get hz
    rw[Cg] at J2;injection J2 with J2;subst J2
    by_cases KN:c=i
    ·subst KN
     rw[if_pos rfl]
     unfold uh
     split
     ·rename_i sz xs
      have CY:xs=[]:=aaZ fun bQ=>hc ⟨sz,xs,hz,bQ⟩
      subst CY
      simp only[aj] at ov ⊢
      obtain⟨k0,NS,a,cap,us,rfl,k1,k2,_⟩:=ov
      exact⟨k0,NS,a,cap,us,rfl,k1,k2,.inl trivial⟩
     ·exact ov
    ·rw[if_neg KN];exact ov
 ·exact⟨(0,0),hx (0,0)⟩
theorem fk (p:Nat×Nat) (args:List V): (cO p args).length=args.length:=by simp[cO,cU]
theorem vP {p:Nat×Nat} {args:List V} (h:V.al args=true):V.al (cO p args)=true:=by
 refine oP fun x hx=> ?_
 obtain⟨i,hi⟩:=ZS.1 hx
 have he:V.al (V.erases args)=true:=by rw[bO];exact h
 rw[cO,ZV,aau,Zq] at hi
 obtain⟨z,hz,rfl⟩:=hi
 have IG:=gI he (List.mem_of_getElem? hz)
 split
 ·unfold zf
  split
  ·rename_i cs
   simp only[V.aq] at IG ⊢
   refine oP fun y hy=> ?_
   obtain⟨j,hj⟩:=ZS.1 hy
   rw[ZV,aau,Zq] at hj
   obtain⟨u,hu,rfl⟩:=hj
   have Cg:=gI IG (List.mem_of_getElem? hu)
   split
   ·exact CO Cg
   ·exact Cg
  ·exact IG
 ·exact IG
theorem xb {F:FuncId} {p:Nat×Nat} {args:List V} {res:eV} (hp:V.al args=true) (h:bJ X F (cO p args) res):bJ X F args ⟨res.val.erase,[]⟩:=by
 intro B K w φ0 vals yR hv ho
 have Qf:=vP (p:=p) hp
 have hO: (enter args).O=fun _=>bk:=by rw[fp hp]
 have Uj: (enter (cO p args)).O=fun _=>bk:=by rw[fp Qf]
 have hT: ∀t a,args[t]? =some a→(enter args).T t=a:=fun t a ha=>by rw[fp hp];simp[List.getD,ha]
 have TZ: ∀t a,(cO p args)[t]? =some a→(enter (cO p args)).T t=a:=fun t a ha=>by rw[fp Qf];simp[List.getD,ha]
 have each: ∀K' t (x:V) v,(V.erases args)[t]? =some x→vals[t]? =some v→aj ⟨X,B,K'⟩ ⟨w,φ0,fun _=>bk⟩ x v:=fun K' t x v hx yk=>by
  rw[lP,ZI,Zq] at hx
  obtain⟨y,hy,rfl⟩:=hx
  have:=hv t v yk
  rw[hT t y hy,hO] at this
  have:=xa (K':=K') this
  exact this
 obtain⟨K',hK⟩: ∃K',∀x v,(V.erases args)[p.1]? =some x→vals[p.1]? =some v→aj ⟨X,B,K'⟩ ⟨w,φ0,fun _=>bk⟩ (zf p.2 x) v:=by
  cases hx: (V.erases args)[p.1]? with
  | none=>exact⟨(0,0),fun x v h1=>by simp at h1⟩
  | some x=>
    cases hu:vals[p.1]? with
    | none=>exact⟨(0,0),fun x v _ h1=>by simp at h1⟩
    | some u=>
      obtain⟨K',hK⟩:=Fa (X:=X) (B:=B) (μ:=⟨w,φ0,fun _=>bk⟩) p.2 (fun K'=>each K' p.1 x u hx hu)
      exact⟨K',fun y v h1 h2=>by injection h1 with h1;injection h2 with h2;subst h1;subst h2;exact hK⟩
 have hU:=h B K' w φ0 vals (by rw[fk];exact yR) (fun t v yk=>by
  rw[Uj]
  have bz:t< (cO p args).length:=by rw[fk,←yR];exact(Zs.1 yk).1
  obtain⟨y,eS⟩: ∃y,(cO p args)[t]? =some y:=⟨_,Zv bz⟩
  rw[TZ t _ eS]
  have EB:=eS
  simp only[cO] at EB
  rw[ZV,aau,Zq] at EB
  obtain⟨z,hz,wP⟩:=EB
  rw[←wP]
  split
  · rename_i e
    subst e
    exact hK z v hz yk
  ·exact each K' t z v hz yk) (by
  rw[Uj]
  rw[hO] at ho
  have:=sZ (K':=K') ho
  exact this)
 rw[Uj] at hU
 rw[hO]
 have post: ∀val w',(∃φ' T' O' v0 refs,Le ⟨w,φ0,fun _=>bk⟩ ⟨w',φ',O'⟩∧aP ⟨X,B,K'⟩ ⟨w',φ',O'⟩∧
    aj ⟨X,B,K'⟩ ⟨w',φ',O'⟩ v0 val∧cI (cO p args).length ⟨T',O'⟩ v0 res.val refs∧distinct refs=true∧bS O' 0 (cO p args)=some res.outs)→
    ∃φ' T' O' v0 refs,Le ⟨w,φ0,fun _=>bk⟩ ⟨w',φ',O'⟩∧aP ⟨X,B,K⟩ ⟨w',φ',O'⟩∧
    aj ⟨X,B,K⟩ ⟨w',φ',O'⟩ v0 val∧cI args.length ⟨T',O'⟩ v0 (eV.mk res.val.erase []).val refs∧distinct refs=true∧bS O' 0 args=some (eV.mk res.val.erase []).outs:=by
  rintro val w' ⟨φ',T',O',v0,refs,k1,k2,k3,k4,k5,k6⟩
  rw[fk] at k4
  refine⟨φ',T',cS O',v0.erase,refs,?_,sZ k2,xa k3,k4.erase,k5,mj hp⟩
  exact⟨k1.size,fun b hb hn=> ⟨(k1.bR b hb hn).1,fun h'=> (k1.bR b hb hn).2 (lQ.1 h')⟩,k1.gen,k1.row,k1.os,k1.output,k1.tape,k1.frozen⟩
 unfold tq at hU ⊢
 split at hU
 ·exact post _ _ hU
 ·refine Calls.mono hU fun e w' he=> ?_
  cases e with
  | returned v=>exact post _ _ he
  | panicked c=>exact he.elim
  | outgrown=>exact he.elim
 ·exact hU.elim
end
end Go.AM
namespace Go.AM
open Go Go.RowKit
structure rZ (X:TrEnv) (E:Env):Prop where
 inj: ∀t1 t2 k,X.rK t1=some k→X.rK t2=some k→t1=t2
 mixed:X.P.follows .mixedOrders=true
 fn: ∀f af F,E.fn f=some af→X.eT F=some f→ ∃fn h c,X.P.funcs[F]? =some fn∧(fn.name== "runtime.NumGoroutine")=false∧fn.body=some c∧xA X h fn=some af∧af.nparams≤fn.ntmps
 ext: ∀f au res F,E.ext f au=some res→X.eT F=some f→bJ X F au res
 iter: ∀g F caps xs,E.iter g caps=some xs→X.eT F=some g→ ∀ (B:Nat→Prop) (K:Nat×Nat) (μ:Mu) (lb:Array Value),ah ⟨X,B,K⟩ μ caps lb.toList→aP ⟨X,B,K⟩ μ→tI ⟨X,B,K⟩ μ F lb xs
 xl: ∀f F h,E.xl f=some h→X.eT F=some f→yA X F h
 hyb: ∀f h F,E.hyb f=some h→X.eT F=some f→ ∀C:aQ,(∀f F au res,X.eT F=some f→C f au=some res→bJ X F au res)→ ∀au res,h C au=some res→bJ X F au res
section
variable {X:Ctx} {T:Nat→V} {a:Go.Act} {μ:Mu}
theorem yD (hr:Rel X T a μ) {r:ResultVar} {r':pI} (az:qw X r=some r') {v:V} (h:kz ⟨T,μ.O⟩ r'=some v):
   ∃val,((match r with| .tmp t=>pure (a.tmps.getD t undef) | .cell c t=>do loadVar t (←asAddr (a.tmps.getD c undef)):Sem Value)).run X.P μ.w= .ok val μ.w∧aj X μ v val:=by
 cases r with
 | tmp t=>
   simp[qw] at az;subst az
   simp only[kz,Zr] at h;subst h
   exact⟨_,rfl,hr.tmps t⟩
 | cell c t=>
   simp only[qw] at az
   split at az
   ·rename_i g sz hg hn
    injection az with az;subst az
    simp only[kz] at h
    split at h
    ·rename_i r gn idx off e
     split at h
     ·rename_i es aZ
      split at h
      ·rename_i bP
       split at h
       ·rename_i el qg
        have hx:=hr.tmps c
        rw[e] at hx
        simp only[aj] at hx
        obtain⟨p,KL,_,bq⟩:=hx
        obtain⟨AJ,bq⟩:=bq bP
        obtain⟨xv,sH,_,jw⟩:=Af hr.aS aZ qg AJ
        obtain⟨val,hl,aV⟩:=nI sH h hg hn jw
        refine⟨val,?_,aV⟩
        rw[bq] at KL
        show (do loadVar t (←asAddr (a.tmps.getD c undef)):Sem Value).run X.P μ.w=_
        rw[KL]
        simpa [Sem.run_bind,asAddr,Sem.run] using hl
       ·simp at h
      ·simp at h
     ·simp at h
    ·simp at h
   ·simp at az
theorem qP (hr:Rel X T a μ): ∀ {rs:List ResultVar} {rs':List pI} {vs:List V},iX X rs=some rs'→dX ⟨T,μ.O⟩ rs'=some vs→
   ∃vals,(rs.mapM (fun r=> (match r with| .tmp t=>pure (a.tmps.getD t undef) | .cell c t=>do loadVar t (←asAddr (a.tmps.getD c undef)):Sem Value))).run X.P μ.w= .ok vals μ.w∧ah X μ vs vals
 | [],rs',vs,h1,h2=>by
   simp[iX] at h1;subst h1
   simp[dX] at h2;subst h2
   exact⟨[],by simp[Sem.run],by simp[ah]⟩
 | r::rs,rs',vs,h1,h2=>by
   simp only[iX] at h1
   split at h1
   ·rename_i r1 MD k1 k2
    injection h1 with h1;subst h1
    simp only[dX] at h2
    split at h2
    ·rename_i v Yl m1 m2
     injection h2 with h2;subst h2
     obtain⟨val,n1,n2⟩:=yD hr k1 m1
     obtain⟨vals,p1,p2⟩:=qP hr k2 m2
     refine⟨val::vals,?_,by simp only[ah];exact⟨n2,p2⟩⟩
     simp only[List.mapM_cons,Sem.run_bind,n1,Result.andThen,p1]
     rfl
    ·simp at h2
   ·simp at h1
theorem vQ (hr:Rel X T a μ) {fn:Func} {rs':List pI} {vs:List V} (h1:iX X fn.results.toList=some rs') (h2:dX ⟨T,μ.O⟩ rs'=some vs):
  ∃vals,(results fn a.tmps).run X.P μ.w= .ok (match vals with| [v]=>v| vs=> .tuple vs.toArray) μ.w∧ah X μ vs vals:=by
 obtain⟨vals,k1,k2⟩:=qP hr h1 h2
 refine⟨vals,?_,k2⟩
 have hm: (fn.results.mapM (fun r=> (match r with| .tmp t=>pure (a.tmps.getD t undef) | .cell c t=>do loadVar t (←asAddr (a.tmps.getD c undef)):Sem Value))).run X.P μ.w= .ok vals.toArray μ.w:=by
  rw[Array.mapM_eq_mapM_toList]
  show Sem.run X.P (_ >>=fun l=>pure (List.toArray l)) _=_
  rw[Sem.run_bind,k1]
  rfl
 unfold results
 rw[Sem.run_bind]
 refine(congrArg (fun r=>Result.andThen r (fun vs w'=>Sem.run X.P (pure (if h:vs.size=1 then vs[0] else Value.tuple vs)) w')) hm).trans ?_
 match vals with
 | []=>rfl
 | [v]=>rfl
 | _::_::_=>rfl
end
section
variable {X:TrEnv} {E:Env}
theorem Fb {af:bF} {args:List V} {σ:St} {res:eV} (h:leave af args σ=some res):
  ∃vs,dX σ af.results=some vs∧bS σ.O 0 args=some res.outs∧ ∃refs,distinct refs=true∧
   ∀v0,v0=(match vs with| [v]=>v| vs=> .tuple vs)→cI args.length σ v0 res.val refs:=by
 unfold leave at h
 split at h
 ·rename_i vs outs h1 h2
  refine⟨vs,h1,?_⟩
  split at h
  ·rename_i v rs hx
   split at h
   ·rename_i hd
    injection h with h;subst h
    refine⟨h2,rs,hd,?_⟩
    rintro v0 rfl
    match vs,hx with
    | [u],hx=>
      simp only[cF] at hx
      split at hx
      · rename_i c' r b6 rs' k1 k2
        simp only[Zr,Zw,List.cons.injEq] at hx k2
        obtain⟨⟨rfl,rfl⟩,rfl⟩:=hx
        obtain⟨_,rfl⟩:=k2
        simpa using cI.one k1
      ·simp at hx
    | [],hx=>simp[cF] at hx
    | _::_::_,hx=>
      simp only[cF] at hx
      split at hx
      · rename_i k1 k2
        split at k2
        ·simp only[Zr,Zw] at hx k2
         obtain⟨e1,_⟩:=k2
         subst e1
         simp at hx
        ·simp at k2
      ·simp at hx
   ·simp at h
  ·rename_i vs' rs Qe hx
   split at h
   ·rename_i hd
    injection h with h;subst h
    refine⟨h2,rs,hd,?_⟩
    rintro v0 rfl
    match vs,hx with
    | [u],hx=>
      exfalso
      simp only[cF] at hx
      split at hx
      · rename_i c' r b6 rs' k1 k2
        simp only[Zr,Zw] at hx k2
        obtain⟨rfl,rfl⟩:=hx
        obtain⟨rfl,_⟩:=k2
        exact Qe _ rfl
      ·simp at hx
    | [],hx=>exact .many hx
    | _::_::_,hx=>exact .many hx
   ·simp at h
  ·simp at h
 ·simp at h
theorem s6 {P:Program} {fn:Func} {tmps:Array Value} {R:Ending→World→Prop} {n:Fp} (Pw:World→Prop) (wO: ∀w D,n.fl≤D→w.heap[D]? =some (.deferred (some []))→Pw w→Pw (w.putObj D (.deferred none)))
   (hR: ∀w,Pw w→ ∃v,(results fn tmps).run P w= .ok v w∧R (.returned v) w) {ds:List Deferred} {w:World} (hm:Marks n w ds) (hw:Pw w):LeavesInM (Fr none) 0 P fn tmps R ds .returning w:=by
 obtain⟨_,Ds,rfl,gM,Y5⟩:=hm
 revert w
 induction Ds with
 | nil=>intro w hw _ _;exact hR w hw
 | cons D Ds ih=>
   intro w hw hf hm
   obtain⟨h1,h2⟩:=hm D Zm
   rw[aaS] at gM
   refine⟨Zm,.inl ⟨D,w.putObj D (.deferred none),rfl,run_takeDeferred h2,?_⟩⟩
   refine ih gM.2 (wO w D h1 h2 hw) ⟨by simpa [World.putObj] using hf.1,fun l hl=> ?_⟩ fun D' Uk=> ⟨(hm D' (by simp[Uk])).1,?_⟩
   ·obtain⟨L,k⟩:=hf.2 l hl
    exact⟨L,(World.putObj_heap_other (fun e=>by rw[e,h2] at k;simp at k)).trans k⟩
   ·rw[World.putObj_heap_other (fun e=>gM.1 (by rw[←e];exact Uk))]
    exact(hm D' (by simp[Uk])).2
theorem lR (hE:rZ X E) {n:Nat} (hH: ∀m,m<n→ ∀ (B:Nat→Prop) (K:Nat×Nat),oF ⟨X,B,K⟩ E (cX E (exec E m))) {f:Nat} {af:bF} {F:FuncId} (hf:E.fn f=some af) (hF:X.eT F=some f)
  {args:List V} {res:eV} {e:aN} {σ:St} (hlen:args.length=af.nparams) (hx:exec E n af.body (enter args)=some (e,σ)) (he:e= .normal∨e= .ret) (hl:leave af args σ=some res):bJ X F args res:=by
 obtain⟨fn,h,c,nE,iE,fR,az,hle⟩:=hE.fn f af F hf hF
 intro B K w φ0 vals yR hv ho
 have MH: (callFunc F vals.toArray).run X.P w= .ok (.enter F vals.toArray) w:=by
  have MI: (fn.name== "runtime.NumGoroutine")=false:=iE
  simp[callFunc,Sem.run_bind,program,Sem.run,nE,MI,fR]
  simpa using iE
 rw[MH]
 unfold xA at az
 rw[fR] at az
 simp only at az
 split at az
 ·rename_i ac rs hc TL
  injection az with az
  subst az
  simp only[tq]
  refine(callsIn_wide (n:=0)).1 (callsIn_of_wp_marks (F:=Fr none) nE fR trivial ?_ rfl)
  have bM:vals.toArray.size≤fn.ntmps:=by simp[yR,hlen];exact hle
  have kU:iD ⟨X,B,K⟩ ⟨w,φ0,(enter args).O⟩ ⟨fn.ntmps,w.heap.size,none⟩ (enter args) {tmps:=vals.toArray++Array.replicate (fn.ntmps - vals.toArray.size) undef,defers:=[]} w:=by
   refine⟨Marks.nil (Zy _) Zm,by simp at bM ⊢;omega,φ0,⟨fun t=> ?_,ho⟩,Le.refl _⟩
   by_cases ht:t<vals.length
   ·have e1: (vals.toArray++Array.replicate (fn.ntmps - vals.toArray.size) undef).getD t undef=vals[t]:=by
     simp[aaT,ht]
    rw[e1]
    exact hv t _ (Zv ht)
   ·have e1: (vals.toArray++Array.replicate (fn.ntmps - vals.toArray.size) undef).getD t undef=undef:=by
     simp[aaT,ht,aa5]
     split<;>rfl
    have e2: (enter args).T t=cY:=by
     have:args[t]? =none:=aab Zl
     simp[enter,this]
    rw[e1,e2]
    exact rS
  refine wpIn_mono (CJ (X:=⟨X,B,K⟩) hE.mixed (fun g F caps xs h1 h2 μ lb h3 h4=>hE.iter g F caps xs h1 h2 B K μ lb h3 h4) (h:={h with n:=fn.ntmps}) n (fun m hm=>hH m hm B K) rfl c ac _ _ e _ w hc hx kU) fun ex a' w' hq=> ?_
  obtain⟨rfl,iV,_,φ',hr,qH⟩:=hq
  obtain⟨vs,l1,l2,refs,l3,l4⟩:=Fb hl
  have fin:LeavesInM (Fr none) 0 X.P fn a'.tmps (fun
    | .returned val,w'=> ∃φ' T' O' v0 refs,Le ⟨w,φ0,(enter args).O⟩ ⟨w',φ',O'⟩∧aP ⟨X,B,K⟩ ⟨w',φ',O'⟩∧aj ⟨X,B,K⟩ ⟨w',φ',O'⟩ v0 val∧cI args.length ⟨T',O'⟩ v0 res.val refs∧distinct refs=true∧bS O' 0 args=some res.outs
    | _,_=>False) a'.defers .returning w':=by
   refine s6 (fun w'=>Rel ⟨X,B,K⟩ σ.T a' ⟨w',φ',σ.O⟩∧Le ⟨w,φ0,(enter args).O⟩ ⟨w',φ',σ.O⟩) (fun w1 D h1 h2 ⟨hr,hle⟩=> ⟨⟨fun t=>aj.bN (jz (μ:=⟨w1,φ',σ.O⟩) h2 rfl rfl) (hr.tmps t),wY hr.aS h2⟩,CH hle h1⟩) (fun w' ⟨hr,qH⟩=> ?_) iV ⟨hr,qH⟩
   obtain⟨Qg,r1,r2⟩:=vQ hr TL l1
   refine⟨_,r1,φ',σ.T,σ.O,_,refs,qH,hr.aS,?_,l4 _ rfl,l3,l2⟩
   match vs,Qg,r2 with
   | [],[],r2=>simp only[aj];exact⟨_,rfl,by simpa using r2⟩
   | [v],[u],r2=>simp only[ah] at r2;exact r2.1
   | _::_::_,_::_::_,r2=>simp only[aj];exact⟨_,rfl,by simpa using r2⟩
   | [],_::_,r2=>simp[ah] at r2
   | _::_,[],r2=>simp[ah] at r2
   | [_],_::_::_,r2=>simp[ah] at r2
   | _::_::_,[_],r2=>simp[ah] at r2
  rcases he with rfl| rfl
  ·exact fin
  ·exact fin
 ·simp at az
theorem vg (   hE:rZ X E): ∀ (n:Nat) (f:Nat) (F:FuncId) (args:List V) (res:eV),X.eT F=some f→call E n f args=some res→bJ X F args res:=by
 intro n
 induction n using Nat.strongRecOn with
 | _ n ih=>
   have low: ∀ (f:Nat) (F:FuncId) (args:List V) (res:eV),X.eT F=some f→lh E (exec E n) f args=some res→bJ X F args res:= ?low
   ·intro f F args res hF h
    unfold call cX at h
    split at h
    ·rename_i g hg
     exact hE.hyb f g F hg hF _ low args res h
    ·exact low f F args res hF h
   intro f F args res hF h
   unfold lh at h
   split at h
   ·rename_i r he
    injection h with h;subst h
    exact hE.ext f args r F he hF
   ·split at h
    ·rename_i af hf
     split at h
     ·rename_i hlen
      have hH: ∀m,m<n→ ∀ (B:Nat→Prop) (K:Nat×Nat),oF ⟨X,B,K⟩ E (cX E (exec E m)):=fun m hm B K=>H4 hE.inj (fun f F au res h1 h2=>ih m hm f F au res h1 h2) hE.xl
      split at h
      ·split at h
       ·rename_i σ hx;exact lR hE hH hf hF hlen hx (.inl rfl) h
       ·rename_i σ hx;exact lR hE hH hf hF hlen hx (.inr rfl) h
       ·simp at h
      ·rename_i p hp
       split at h
       ·rename_i s7
        have sC: (cO p args).length=af.nparams:=by rw[fk];exact hlen
        split at h
        ·     rename_i σ hx
              rw[Zq] at h
              obtain⟨r0,h,rfl⟩:=h
              exact xb s7 (lR hE hH hf hF sC hx (.inl rfl) h)
        ·     rename_i σ hx
              rw[Zq] at h
              obtain⟨r0,h,rfl⟩:=h
              exact xb s7 (lR hE hH hf hF sC hx (.inr rfl) h)
        ·simp at h
       ·simp at h
     ·simp at h
    ·simp at h
end
end Go.AM
namespace Go.AM
open Go Go.RowKit
section
variable {X:TrEnv} {F:FuncId} {fn:Func}
theorem qQ {args:List V} (h:V.al args=true): (enter args).O=fun _=>bk:=by rw[fp h]
theorem CP (nE:X.P.funcs[F]? =some fn) (iE: (fn.name== "runtime.NumGoroutine")=false) (hb:fn.body.isNone=true) (hn:Extern.findNext fn=none) (he:Extern.find fn=some Extern.MathSqrt.sqrt)
  {au:List V} {res:eV} (h:vT au=some res):bJ X F au res:=by
 unfold vT at h
 split at h
 ·rename_i b
  split at h
  ·rename_i r hr
   injection h with h;subst h
   intro B K w φ0 vals hl hv ho
   match vals,hl with
   | [v],_=>
     have h0:=hv 0 v rfl
     have e0: (enter [V.float b]).T 0= .float b:=rfl
     rw[e0] at h0
     simp only[aj] at h0
     subst h0
     rw[run_callFunc_extern nE iE hb hn he]
     have ag: (Extern.MathSqrt.sqrt #[.float .f64 b]).run X.P w= .ok (.float .f64 r) w:=by
       have e:Extern.MathSqrt.sqrt #[.float .f64 b]=(match FloatKind.f64.format.sqrt b with
        | some r=>pure (.float .f64 r)
        | none=>do pure (.float .f64 (←choose (.nanBits .f64 b b)))):=rfl
       rw[e,hr];rfl
     have e1: ([Value.float .f64 b]:List Value).toArray= #[.float .f64 b]:=rfl
     rw[e1,ag]
     simp only[Result.andThen,tq]
     refine⟨φ0,fun _=>cY,_,.float r,[],Le.refl _,ho,by simp[aj],.one (by simp[dg,V.aq]),rfl,rfl⟩
  ·simp at h
 ·simp at h
def Qh:Env:={fn:=fun _=>none,ext:=fun _ _=>none}
def Qi:aQ:=fun _ _=>none
def strip (o:bC):bC:={o with pre:=[]}
structure gG (X:TrEnv) (fn:Func) (sz lim:Nat):Prop where
 body: ∃i0 i1 i2 i3 H6 MJ H7 H8,fn.body=some (.seq (.region i0 H6 false) (.seq (.seq (.region i1 MJ false) (.cond (.tmp 4) (.seq (.region i2 H7 false) .ret) .skip)) (.seq (.region i3 H8 false) .ret)))∧
  (fi X ({n:=fn.ntmps}:Hints) H6 H6.toList).map (List.map strip)=some [⟨some 2,.move (.const .nils),none,[]⟩]∧
  (fi X ({n:=fn.ntmps}:Hints) H7 H7.toList).map (List.map strip)=some [⟨some 2,.move (.const .nils),none,[]⟩]∧
  (∃zero,aJ zero sz=true∧0 <sz∧(fi X ({n:=fn.ntmps}:Hints) H8 H8.toList).map (List.map strip)=some [⟨some 5,.buildSlice 96 sz zero 0 [],none,[]⟩,⟨some 6,.move (.tmp 0),none,[]⟩,⟨some 7,.append 128 sz lim (.tmp 5) (.tmp 6),none,[]⟩,⟨some 2,.move (.tmp 7),none,[]⟩])∧
  (∃o1 o2 t e,MJ= #[o1,o2]∧(mL X ({n:=fn.ntmps}:Hints) #[o1,o2] o1).map strip=some ⟨some 3,.move (.tmp 0),none,[]⟩∧o2.dst=some 4∧o2.guard=none∧o2.op= .binOp .eql t (.tmp 3) (.const (.slice none 0 0)) t∧X.P.underlying t=some (.slice e))
 res:fn.results= #[.tmp 2]
 tmps:8≤fn.ntmps
theorem J3 {Y:Ctx} (Az: ∀t1 t2 k,Y.rK t1=some k→Y.rK t2=some k→t1=t2):oF Y Qh Qi:=
 H4 Az (fun _ _ _ _ _ h=>by simp[Qi] at h) (fun _ _ _ h=>by simp[Qh] at h)
theorem ib (Az: ∀t1 t2 k,X.rK t1=some k→X.rK t2=some k→t1=t2) (nE:X.P.funcs[F]? =some fn) (iE: (fn.name== "runtime.NumGoroutine")=false) {sz lim:Nat} (VY:gG X fn sz lim)
   {au:List V} {res:eV} (h:c8 sz lim au=some res):bJ X F au res:=by
 obtain⟨⟨i0,i1,i2,i3,H6,MJ,H7,H8,fR,h0,h2,⟨zero,qW,wP,h3⟩,o1,o2,t,e,rfl,KQ,Hg,EB,Qj,Ym⟩,gg,O9⟩:=VY
 rw[Zq] at h0 h2 h3 KQ
 obtain⟨gj,h0,k0⟩:=h0
 obtain⟨Yn,h2,k2⟩:=h2
 obtain⟨Yo,h3,k3⟩:=h3
 obtain⟨VZ,KQ,k1⟩:=KQ
 have NS:gj.map (fun o=> {o with pre:=[]})=_:=k0
 have Yp:Yn.map (fun o=> {o with pre:=[]})=_:=k2
 have Yq:Yo.map (fun o=> {o with pre:=[]})=_:=k3
 obtain⟨a0,xs,rfl,qt,Ap,rfl⟩: ∃a0 xs,au=[a0]∧(a0= .lit sz xs∨a0= .nils∧xs=[])∧xs.length≤lim∧res=⟨.own sz xs,[]⟩:=by
   unfold c8 at h
   split at h
   ·injection h with h;exact⟨_,[],rfl,.inr ⟨rfl,rfl⟩,Zm,h.symm⟩
   ·rename_i sz' xs
    split at h
    ·rename_i he;injection h with h;obtain⟨rfl,he⟩:=he;exact⟨_,xs,rfl,.inl rfl,he,h.symm⟩
    ·simp at h
   ·simp at h
 have s7:V.al [a0]=true:=by rcases qt with rfl| ⟨rfl,rfl⟩ <;>rfl
 intro B K w φ0 vals yR hv ho
 have hO: (enter [a0]).O=fun _=>bk:=qQ s7
 have V0: (enter [a0]).T 0=a0:=by rw[fp s7];rfl
 have MH: (callFunc F vals.toArray).run X.P w= .ok (.enter F vals.toArray) w:=by
   simp[callFunc,Sem.run_bind,program,Sem.run,nE,fR]
   simpa using iE
 rw[MH]
 simp only[tq]
 refine(callsIn_wide (n:=0)).1 (callsIn_of_wp_marks (F:=Fr none) nE fR trivial ?_ rfl)
 have bM:vals.toArray.size≤fn.ntmps:=by simp[yR];omega
 have kU:iD ⟨X,B,K⟩ ⟨w,φ0,(enter [a0]).O⟩ ⟨fn.ntmps,w.heap.size,none⟩ (enter [a0]) {tmps:=vals.toArray++Array.replicate (fn.ntmps - vals.toArray.size) undef,defers:=[]} w:=by
   refine⟨Marks.nil (Zy _) Zm,by simp at bM ⊢;omega,φ0,⟨fun t=> ?_,ho⟩,Le.refl _⟩
   by_cases ht:t<vals.length
   ·have e1: (vals.toArray++Array.replicate (fn.ntmps - vals.toArray.size) undef).getD t undef=vals[t]:=by
     simp[aaT,ht]
    rw[e1]
    exact hv t _ (Zv ht)
   ·have e1: (vals.toArray++Array.replicate (fn.ntmps - vals.toArray.size) undef).getD t undef=undef:=by
     simp[aaT,ht,aa5]
     split<;>rfl
    have e2: (enter [a0]).T t=cY:=by
     have: [a0][t]? =none:=aab Zl
     simp[enter,this]
    rw[e1,e2]
    exact rS
 have H:=J3 (Y:=⟨X,B,K⟩) Az
 refine wpIn_seq (wpIn_mono (wpIn_region (Q:=fun ex a w'=>ex= .normal∧iD ⟨X,B,K⟩ ⟨w,φ0,(enter [a0]).O⟩ ⟨fn.ntmps,w.heap.size,none⟩ ((enter [a0]).put (some 2) .nils) a w') ?_) ?_)
 · rw[aar]
   refine dN H (h:=({n:=fn.ntmps}:Hints)) rfl h0 H6.size 0 Zl kU (by rw[List.drop_zero,NS];rfl) fun a' w' fw=> ⟨rfl,fw⟩
 rintro ex a1 w1 ⟨rfl,ij⟩
 refine wpIn_seq (wpIn_seq (wpIn_region ?_))
 have Ul:List.range (#[o1,o2]:Array Oper).size=[0,1]:=rfl
 rw[Ul,wpOpsIn_cons]
 have Yr: ((enter [a0]).put (some 2) .nils).T 0=a0:=V0
 have Qk:dc Qh Qi VZ ((enter [a0]).put (some 2) .nils)=some (((enter [a0]).put (some 2) .nils).put (some 3) a0):=by
   have hs:dc Qh Qi (strip VZ) ((enter [a0]).put (some 2) .nils)=some (((enter [a0]).put (some 2) .nils).put (some 3) a0):=by
    rw[k1]
    show some (((enter [a0]).put (some 2) .nils).put (some 3) (((enter [a0]).put (some 2) .nils).T 0))=_
    rw[Yr]
   exact hs
 refine pq H (h:=({n:=fn.ntmps}:Hints)) (o:=o1) rfl KQ rfl ij Qk fun a2 w2 qV=> ?_
 generalize Um: ((enter [a0]).put (some 2) .nils).put (some 3) a0=σ2 at qV
 have Ys:σ2.T 3=a0:=by rw[←Um];rfl
 have V1:σ2.T 0=a0:=by rw[←Um];exact V0
 have V2:σ2.O=fun _=>bk:=by rw[←Um];exact hO
 rw[wpOpsIn_cons]
 obtain⟨HS,Ql,φ2,ov,My⟩:=qV
 have xV:=ov.tmps 3
 rw[Ys] at xV
 obtain⟨ad,n,cap,vM⟩: ∃ad n cap,a2.tmps.getD 3 undef= .slice ad n cap:=by
   rcases qt with rfl| ⟨rfl,_⟩
   ·simp only[aj] at xV
    obtain⟨_,_,a,c,_,h,_⟩:=xV
    exact⟨_,_,_,h⟩
   ·simp only[aj] at xV
    obtain⟨a,h⟩:=xV
    exact⟨_,_,_,h⟩
 have qD:ad.isNone=true→xs=[]:=by
   intro hn
   rcases qt with rfl| ⟨rfl,h9⟩
   ·simp only[aj] at xV
    obtain⟨_,_,a,c,_,h,_,_,h'⟩:=xV
    rw[vM] at h
    injection h with h _ _
    rcases h' with h'| ⟨b,o,h',_⟩
    ·exact h'
    ·rw[h,h'] at hn;simp at hn
   ·exact h9
 have heq: (Op.equal t (.slice ad n cap) (.slice none 0 0)).run X.P w2= .ok ad.isNone w2:=run_equal_slice_nil w2 t e ad n cap Ym
 have fZ: (execOp a2.eval o2).run X.P w2= .ok (.value (.bool ad.isNone)) w2:=by
   simp only[execOp,Qj]
   refine cH ?_
   have ev:a2.eval (.tmp 3)= .slice ad n cap:=by simpa [Go.Act.eval] using vM
   have eI:a2.eval (.const (.slice none 0 0))= .slice none 0 0:=rfl
   simp[eqGuard,ev,eI,Go.binOp,Sem.run_bind,heq]
 have pG: (#[o1,o2]:Array Oper)[1]? =some o2:=rfl
 simp only[wpOpIn,pG]
 rw[if_pos (by simp[Region.wanted,EB])]
 refine tH (by rw[Qj];simp) ?_
 unfold Oper.wp
 rw[fZ,Oper.upon_value]
 simp only[wpOpsIn]
 have A9:iD ⟨X,B,K⟩ ⟨w,φ0,(enter [a0]).O⟩ ⟨fn.ntmps,w.heap.size,none⟩ (σ2.put (some 4) (.bool ad.isNone)) (a2.put o2.dst (.bool ad.isNone)) w2:=by
   rw[Hg]
   refine⟨by rw[put_defers];exact HS,by rw[kR];exact Ql,φ2,?_,?_⟩
   ·exact nM ov (Le.refl _) ov.aS (by simp[aj]) (by simp;rw[Ql];simp;omega) σ2.O
   ·exact My
 generalize a2.put o2.dst (.bool ad.isNone)=a3 at A9 ⊢
 have JP:a3.eval (.tmp 4)= .bool ad.isNone:=ve (c':= .tmp 4) A9 rfl rfl
 have CY:V.al xs=true∧xs.all (aJ · sz)=true:=by
   rcases qt with rfl| ⟨rfl,h9⟩
   ·simp only[aj] at xV
    obtain⟨k1,k2,a,c,vs,_,_,k3,k4⟩:=xV
    refine⟨k1,?_⟩
    rcases k4 with rfl| ⟨b,o,_,_,_,k5⟩
    ·rfl
    ·rw[Zx] at k2 ⊢
     intro x hx
     obtain⟨i,hi⟩:=ZS.1 hx
     obtain⟨v,TK,DF⟩:=ah.get k3 hi
     have:=(k5 i v TK).1
     rw[DF.dK (k2 x hx)] at this
     simp[aJ,this,k2 x hx]
   ·subst h9;exact⟨rfl,rfl⟩
 have Qm: ∀ (a':Go.Act) (w':World) (O':Nat→Obj),Marks ⟨fn.ntmps,w.heap.size,none⟩ w' a'.defers→(∃φ',Le ⟨w,φ0,(enter [a0]).O⟩ ⟨w',φ',O'⟩∧aP ⟨X,B,K⟩ ⟨w',φ',O'⟩∧ ∃r g,1≤r∧aj ⟨X,B,K⟩ ⟨w',φ',O'⟩ (.sl r g 0 xs.length) (a'.tmps.getD 2 undef)∧O' r=⟨g,sz,true,false,some xs⟩)→
    bodyPostM (Fr none) 0 X.P fn (fun| .returned val,w'=> ∃φ' T' O' v0 refs,Le ⟨w,φ0,(enter [a0]).O⟩ ⟨w',φ',O'⟩∧aP ⟨X,B,K⟩ ⟨w',φ',O'⟩∧aj ⟨X,B,K⟩ ⟨w',φ',O'⟩ v0 val∧cI [a0].length ⟨T',O'⟩ v0 (eV.mk (.own sz xs) []).val refs∧distinct refs=true∧bS O' 0 [a0]=some (eV.mk (.own sz xs) []).outs| _,_=>False) .ret a' w':=by
   rintro a' w' O' hd ⟨φ',k1,k2,r,g,k3,k4,k5⟩
   refine s6 (fun w'=> (Le ⟨w,φ0,(enter [a0]).O⟩ ⟨w',φ',O'⟩∧aP ⟨X,B,K⟩ ⟨w',φ',O'⟩)∧aj ⟨X,B,K⟩ ⟨w',φ',O'⟩ (.sl r g 0 xs.length) (a'.tmps.getD 2 undef)) (fun w1 D h1 h2 ⟨⟨hle,yS⟩,hv⟩=> ⟨⟨CH hle h1,wY yS h2⟩,aj.bN (jz (μ:=⟨w1,φ',O'⟩) h2 rfl rfl) hv⟩) ?_ hd ⟨⟨k1,k2⟩,k4⟩
   rintro w' ⟨⟨k1,k2⟩,k4⟩
   refine⟨a'.tmps.getD 2 undef,by simp[results,gg],φ',fun _=>cY,O',_,[r],k1,k2,k4,.one ?_,rfl,mj s7⟩
   have Lz:aw xs 0 xs.length=xs:=Bi rfl
   have QT: ¬r< [a0].length:=by simp;omega
   simp only[dg,V.aq,bT,k5,Lz,CY.1,QT]
   simp
 cases hb:ad.isNone with
 | true=>
   rw[hb] at JP
   obtain rfl:=qD hb
   refine wpIn_cond_true JP (wpIn_seq (wpIn_region ?_))
   rw[aar]
   refine dN H (h:=({n:=fn.ntmps}:Hints)) rfl h2 H7.size 0 Zl A9 (σ':=(σ2.put (some 4) (.bool ad.isNone)).put (some 2) .nils) (by rw[List.drop_zero,Yp];rfl) fun a' w' fw=> ?_
   refine wpIn_ret ?_
   obtain⟨kH,_,φ,sL,qH⟩:=fw
   have eO: ((σ2.put (some 4) (.bool ad.isNone)).put (some 2) .nils).O=fun _=>bk:=V2
   have DF:=sL.tmps 2
   have e2: ((σ2.put (some 4) (.bool ad.isNone)).put (some 2) .nils).T 2= .nils:=rfl
   rw[e2] at DF
   have dW:=sL.aS
   rw[eO] at qH dW
   simp only[aj] at DF
   obtain⟨aa,SZ⟩:=DF
   refine Qm a' w' (cC (fun _=>bk) 1 ⟨1,sz,true,false,some []⟩) kH ⟨cC φ 1 ⟨0,0,0⟩,qH.trans ⟨Zy _,fun b hb hn=> ⟨rfl,?_⟩,fun r=> ?_,fun r hr=> ?_,rfl,rfl,rfl,fun _ _=>rfl⟩,⟨fun r es aZ=> ?_,fun r r' _ h1 h2 h3 h4=> ?_,fun r h1 h2=> ?_,dW.blt⟩,1,1,Zy _,?_,rfl⟩
   ·rintro⟨r,h1,h2,h3,h4⟩
    by_cases e:r=1
    ·subst e;simp[cC] at h3
    ·simp[cC,e,bk] at h1
   ·simp only[bk];omega
   ·by_cases e:r=1
    ·subst e;simp[cC,bk] at hr
    ·simp[cC,e]
   ·by_cases e:r=1
    ·subst e
     simp only[cC,if_true,Zr] at aZ ⊢
     subst aZ
     left
     unfold jX
     simp only[cC,if_true]
     exact⟨wP,Zm,rfl,Zm⟩
    ·simp[cC,e,bk] at aZ
   ·by_cases e:r=1
    ·subst e;simp[cC] at h3
    ·simp[cC,e,bk] at h1
   ·by_cases e:r=1
    ·subst e;simp[cC] at h2
    ·simp[cC,e,bk] at h1
   ·simp only[aj]
    exact⟨aa,0,SZ,Zm,by simp[cC],fun _=> ⟨by simpa [cC] using wP,by simp[cC],Zm⟩⟩
 | false=>
   rw[hb] at JP
   refine wpIn_cond_false JP (wpIn_skip ?_)
   refine wpIn_seq (wpIn_region ?_)
   have Yt: ∃σ4 g,fo Qh Qi [⟨some 5,.buildSlice 96 sz zero 0 [],none,[]⟩,⟨some 6,.move (.tmp 0),none,[]⟩,⟨some 7,.append 128 sz lim (.tmp 5) (.tmp 6),none,[]⟩,⟨some 2,.move (.tmp 7),none,[]⟩] (σ2.put (some 4) (.bool ad.isNone))=some σ4∧σ4.T 2= .sl 96 g 0 xs.length∧σ4.O 96=⟨g,sz,true,false,some xs⟩:=by
    have Qn:σ2.O 96=bk:=by rw[V2]
    have DU: ∀ (k:List V→Act),content sz a0 k=k xs:=by
     intro k
     rcases qt with rfl| ⟨rfl,rfl⟩ <;>simp[content]
    have AJ:xs≠[]→ ¬xs.length≤0:=fun h h2=>h (List.eq_nil_of_length_eq_zero Zl)
    by_cases hx:xs=[]
    ·simp[fo,dc,bX,av,ev,gL,cW,Act.run,St.put,cC,V1,Qn,DU,qW,wP,hx,bk,ml,V.al,overwrite]
    ·have:=AJ hx
     have kb: (∀x ∈ xs,aJ x sz=true)=True:=eq_true (Zx.1 CY.2)
     simp[fo,dc,bX,av,ev,gL,cW,Act.run,St.put,cC,V1,Qn,DU,qW,wP,hx,bk,ml,CY.1,kb,Ap,aw,this]
   obtain⟨σ4,g,Qo,Hd,EB⟩:=Yt
   rw[aar]
   refine dN H (h:=({n:=fn.ntmps}:Hints)) rfl h3 H8.size 0 Zl A9 (by rw[List.drop_zero,Yq];exact Qo) fun a' w' fw=> ?_
   refine wpIn_ret ?_
   obtain⟨kH,_,φ,sL,qH⟩:=fw
   have DF:=sL.tmps 2
   rw[Hd] at DF
   exact Qm a' w' σ4.O kH ⟨φ,qH,sL.aS,96,g,Zl,DF,EB⟩
end
end Go.AM
namespace Go.AM
open Go Go.RowKit Go.ChangeShapes Go.WideShapes
theorem Fc {H:Type} {enc:TypeId×Value→H} {P:Program} {f:Func} {s:ChangeSpec} {apart fresh handsOn again:Bool} {W W':World} {args:Array Value} {v:Value} {ds gs:List (DataW H)} {before pa pv:List MemPlace}
  (hW:DataW.Whole enc P f.params.toList s.vars apart W args.toList ds gs before)
  (gg: ∀ (b:Nat) (sp:Nat→Bool) (hd:Bool),DataW.TrodAll enc P W' b sp hd f.resultTypes.toList (v.resultList f.resultTypes.size) (s.fn H (ds++gs)).results [])
  (ia: ∀sp:Nat→Bool,(∀p ∈ before,sp p.block=true)→DataW.TrodAll enc P W' 0 sp true f.params.toList args.toList (s.fn H (ds++gs)).args pa)
  (K5: ∀sp:Nat→Bool,(∀p ∈ before,sp p.block=true)→DataW.TrodVars enc P W' sp s.vars (s.fn H (ds++gs)).vars pv)
  (sB:before=pa++pv) (hk:W.keptBut W' (· ∈ before)) (eB: ∀a,a.block<W.heap.size→W'.frozen? a=W.frozen? a)
  (Yu: ∀ (j:Nat) (t:TypeId) (r:Value),f.resultTypes[j]? =some t→(v.resultList f.resultTypes.size)[j]? =some r→Value.okWide P W' .any 0 t r):
  s.post enc P f apart fresh handsOn again W args v W':=by
 have hold: ∀p ∈ before,(fun b=>decide (b<W.heap.size)) p.block=true:=fun p hp=>by simpa using hW.lt p hp
 have bz:=hW.lt
 refine⟨ds,gs,before,[],pa,pv,hW,gg _ _ _,ia _ hold,K5 _ hold,World.keptBut_mono (fun p hp=> ⟨hp,?_⟩) hk,fun _=> ?_⟩
 ·rw[sB,ZF] at hp
  exact Or.inr hp
 ·obtain⟨_,_,_,_,_,hz,hn⟩:=hW
  refine⟨Yu,_,_,([]++pa)++pv,⟨[]++pa,pv,trodAll_append (ia _ (fun _ _=>rfl)) (gg _ _ _),K5 _ (fun _ _=>rfl),rfl,?_,?_⟩,?_⟩
  ·intro b off hp
   have hb:MemPlace.cell b off ∈ before:=by rw[sB];simpa using hp
   rw[eB _ (bz _ hb)]
   exact hz b off hb
  ·intro ha
   have:=hn ha
   rw[sB] at this
   simpa using this
  ·intro p hp _
   rw[sB]
   simpa using hp
end Go.AM
namespace Go.AM
open Go Go.RowKit
section
variable (P:Program)
def r5 (e:TypeId) (ws:List V):V:=match P.underlying e with
 | some (.struct _) | some (.array ..)=> .agg ws
 | _=>ws.headD cY
def Un (tv:TypeId→List V→Prop):List Field→List V→Prop
 | [],vs=>vs=[]
 | f::fs,vs=> ∃a b,vs=a++b∧a.length=P.cellsOf f.type∧tv f.type a∧Un tv fs b
def Uo (tv:List V→Prop) (s:Nat):Nat→List V→Prop
 | 0,vs=>vs=[]
 | k+1,vs=> ∃a b,vs=a++b∧a.length=s∧tv a∧Uo tv s k b
def TV:Nat→TypeId→List V→Prop
 | 0,_,_=>False
 | n+1,t,vs=>match P.underlying t with
   | some .bool=> ∃b,vs=[.bool b]
   | some (.int k)=> ∃x,vs=[.int k x]∧(Lit.int k x).wf=true
   | some .string=> ∃s,vs=[.str s]∧s.length≤maxLen
   | some (.slice e)=>vs=[.nils]∨ ∃xs,vs=[.lit (P.cellsOf e) xs]∧xs.length≤maxLen∧ ∀x ∈ xs,∃ws,TV n e ws∧x=r5 P e ws
   | some (.struct fs)=>Un P (TV n) fs.toList vs
   | some (.array k e)=>Uo (TV n e) (P.cellsOf e) k vs
   | _=>False
def nk:List Field→Nat→Option Nat
 | [],off=>some off
 | f::fs,off=>if f.offset=off then nk fs (off+P.cellsOf f.type) else none
def yE (S:List TypeId) (t:TypeId):Bool:=match P.underlying t with
 | some .bool| some (.int _) | some .string=>P.cellsOf t==1
 | some (.slice e)=>P.cellsOf t==1 &&decide (0 <P.cellsOf e) &&S.contains e
 | some (.struct fs)=> (nk P fs.toList 0==some (P.cellsOf t)) &&fs.toList.all fun f=>S.contains f.type
 | some (.array k e)=>S.contains e &&P.cellsOf t==k*P.cellsOf e
 | _=>false
end
section
variable {X:TrEnv} {H:Type} {enc:TypeId×Value→H} {w:World} {S:List TypeId} {base:Nat} {spare:Nat→Bool} {held:Bool}
abbrev still (w:World) (φ:Nat→Row):Mu:=⟨w,φ,fun _=>bk⟩
abbrev free (X:TrEnv):Ctx:=⟨X,fun _=>False,(0,0)⟩
def Good (X:TrEnv) (w:World) (n:Nat) (t:TypeId) (vs:List V) (cs:List Value):Prop:=
 TV X.P n t vs∧vs.all V.aF=true∧V.al vs=true∧ ∀φ,ah (free X) (still w φ) vs cs
theorem lS: ∀ {a b:List V},V.al (a++b)=(V.al a &&V.al b)
 | [],b=>by simp[V.al]
 | x::a,b=>by simp[V.al,lS (a:=a),Bool.and_assoc]
theorem s8 {n:Nat}: ∀ {fs:List Field} {cs:List Value} {off total:Nat},nk X.P fs off=some total→cs.length=total→
   (∀f ∈ fs,∃vs,Good X w n f.type vs ((cs.drop f.offset).take (X.P.cellsOf f.type)))→
   ∃vs,Un X.P (TV X.P n) fs vs∧vs.all V.aF=true∧V.al vs=true∧ ∀φ,ah (free X) (still w φ) vs (cs.drop off)
 | [],cs,off,total,hc,hl,_=>by
   simp only[nk,Zr] at hc
   subst hc
   refine⟨[],rfl,rfl,rfl,fun φ=> ?_⟩
   rw[aal Zl];simp[ah]
 | f::fs,cs,off,total,hc,hl,hf=>by
   simp only[nk] at hc
   split at hc
   ·rename_i ho
    subst ho
    obtain⟨a,KP,Ri,Rj,NT⟩:=hf f Zm
    obtain⟨b,IE,JE,O7,Rk⟩:=s8 hc hl (fun g hg=>hf g (by simp[hg]))
    have hle:f.offset+X.P.cellsOf f.type≤total:=by
     clear KP Ri Rj NT IE JE O7 Rk hf
     have: ∀ (fs:List Field) (o tt:Nat),nk X.P fs o=some tt→o≤tt:=by
      intro fs
      induction fs with
      | nil=>intro o tt h;simp[nk] at h;omega
      | cons g gs ih=>
        intro o tt h
        simp only[nk] at h
        split at h
        ·have:=ih _ _ h;omega
        ·simp at h
     exact this _ _ _ hc
    have LQ:a.length=X.P.cellsOf f.type:=by
     have:=(NT (fun _=> ⟨0,0,0⟩)).length
     rw[this];simp;omega
    refine⟨a++b,⟨a,b,rfl,LQ,KP,IE⟩,by simp[Ri,JE],by rw[lS,Rj,O7];rfl,fun φ=> ?_⟩
    have e:cs.drop f.offset=(cs.drop f.offset).take (X.P.cellsOf f.type)++cs.drop (f.offset+X.P.cellsOf f.type):=by
     rw[←aaM,List.take_append_drop]
    rw[e]
    exact ah.append (NT φ) (Rk φ)
   ·simp at hc
theorem vh {n:Nat} {e:TypeId}: ∀ (k:Nat) {cs:List Value} (j:Nat),cs.length=(j+k)*X.P.cellsOf e→
   (∀i,i<j+k→ ∃vs,Good X w n e vs ((cs.drop (i*X.P.cellsOf e)).take (X.P.cellsOf e)))→
   ∃vs,Uo (TV X.P n e) (X.P.cellsOf e) k vs∧vs.all V.aF=true∧V.al vs=true∧ ∀φ,ah (free X) (still w φ) vs (cs.drop (j*X.P.cellsOf e))
 | 0,cs,j,hl,_=>by
   refine⟨[],rfl,rfl,rfl,fun φ=> ?_⟩
   rw[aal (by rw[hl];simp)];simp[ah]
 | k+1,cs,j,hl,hf=>by
   obtain⟨a,KP,Ri,Rj,NT⟩:=hf j Zl
   have e1:j+1+k=j+(k+1):=Zl
   obtain⟨b,IE,JE,O7,Rk⟩:=vh k (cs:=cs) (j+1) (by rw[e1];exact hl) (fun i hi=>hf i Zl)
   have LQ:a.length=X.P.cellsOf e:=by
    have:=(NT (fun _=> ⟨0,0,0⟩)).length
    rw[this];simp
    rw[hl,←Nat.sub_mul]
    have:1≤j+(k+1) - j:=Zl
    exact Nat.min_eq_left (Nat.le_mul_of_pos_left _ this)
   refine⟨a++b,⟨a,b,rfl,LQ,KP,IE⟩,by simp[Ri,JE],by rw[lS,Rj,O7];rfl,fun φ=> ?_⟩
   have e:cs.drop (j*X.P.cellsOf e)=(cs.drop (j*X.P.cellsOf e)).take (X.P.cellsOf e)++cs.drop ((j+1)*X.P.cellsOf e):=by
    rw[ZR,Nat.one_mul,←aaM,List.take_append_drop]
   rw[e]
   exact ah.append (NT φ) (Rk φ)
theorem DV {α:Type} {p:Nat→α→Prop}: ∀ (n:Nat),(∀i,i<n→ ∃x,p i x)→ ∃xs:List α,xs.length=n∧ ∀i x,xs[i]? =some x→p i x
 | 0,_=> ⟨[],rfl,Zm⟩
 | n+1,h=>by
   obtain⟨xs,h1,h2⟩:=DV n (fun i hi=>h i Zl)
   obtain⟨x,hx⟩:=h n Zl
   refine⟨xs++[x],by simp[h1],fun i y hy=> ?_⟩
   by_cases hi:i<xs.length
   ·rw[ZW hi] at hy;exact h2 i y hy
   ·rw[aaf Zl] at hy
    have:i - xs.length=0:=by
     have:=(Zs.1 hy).1
     simp at this;omega
    rw[this] at hy
    simp at hy;subst hy
    have:i=n:=Zl
    subst this;exact hx
theorem trod_good (hS:S.all (yE X.P S)=true): ∀ (n:Nat) (t:TypeId) (cs:List Value) (x:DataW H×List MemPlace),t ∈ S→DataW.trod enc X.P w base spare held n t cs=some x→ ∃vs,Good X w n t vs cs:=by
 intro n
 induction n with
 | zero=>intro t cs x _ h;simp[DataW.trod] at h
 | succ n ih=>
   intro t cs x ht h
   have hp:=Zx.1 hS t ht
   unfold yE at hp
   cases hu:X.P.underlying t with
   | none=>rw[hu] at hp;simp at hp
   | some desc=>
     rw[hu] at hp
     cases desc with
     | bool=>
       obtain⟨b,rfl,_⟩:=DataW.trod_bool hu h
       exact⟨[.bool b],by simp[TV,hu],rfl,rfl,fun φ=>by simp[ah,aj]⟩
     | int k=>
       obtain⟨m,rfl,_,hw⟩:=DataW.trod_int hu h
       exact⟨[.int k m],by simp[TV,hu,hw],rfl,rfl,fun φ=>by simp[ah,aj]⟩
     | string=>
       obtain⟨s,rfl,_,hm⟩:=DataW.trod_string hu h
       exact⟨[.str s.data.toList],by simp only[TV,hu];exact⟨_,rfl,by simpa using hm⟩,rfl,rfl,fun φ=>by simp only[ah,aj];exact⟨⟨s,rfl,rfl⟩,trivial⟩⟩
     | slice e=>
       simp only[Zt,decide_eq_true_eq] at hp
       obtain⟨⟨_,AJ⟩,he⟩:=hp
       have nQ:e ∈ S:=by simpa using he
       rcases DataW.trod_slice hu h with⟨rfl,_⟩ | ⟨a,len,cap,elems,rest,m,hn,rfl,_,hb,hl,hm,hlen,qg,_,_⟩
       ·exact⟨[.nils],by simp[TV,hu],rfl,rfl,fun φ=>by simp only[ah,aj];exact⟨⟨none,rfl⟩,trivial⟩⟩
       ·obtain rfl:n=m:=Zl
        have each: ∀i,i<len→ ∃q:V×Value,(∃ws,TV X.P n e ws∧q.1=r5 X.P e ws)∧q.1.aq=true∧q.1.cq=true∧(∀φ,aj (free X) (still w φ) q.1 q.2)∧
          q.2.cells.size=X.P.cellsOf e∧ ∀j c,q.2.cells[j]? =some c→w.cell? ((a.add (i*X.P.cellsOf e)).add j)=some c:=by
         intro i hi
         have h1:=qg i hi
         rw[Zv Zl] at h1
         rw[Option.bind_eq_some_iff] at h1
         obtain⟨b6,hc,nW⟩:=h1
         obtain⟨_,nT,jS⟩:=World.cells?_some hc
         obtain⟨ws,g1,g2,g3,g4⟩:=ih e b6 _ nQ nW
         have kZ:ws.length=b6.length:=(g4 (fun _=> ⟨0,0,0⟩)).length
         have yF: ∀ (v:Value),v.cells.toList=b6→v.cells.size=X.P.cellsOf e∧ ∀j c,v.cells[j]? =some c→w.cell? ((a.add (i*X.P.cellsOf e)).add j)=some c:=by
          intro v hv
          have hs:v.cells.size=b6.length:=by rw[←hv];simp
          refine⟨by rw[hs,nT],fun j c hj=> ?_⟩
          have ot:b6[j]? =some c:=by rw[←hv];simpa using hj
          rw[jS j (by have:=(Zs.1 ot).1;omega)];exact ot
         have Md: (∃fs,X.P.underlying e=some (.struct fs))∨(∃k e',X.P.underlying e=some (.array k e'))∨r5 X.P e ws=ws.headD cY∧ws.length=1:=by
          have wL:=Zx.1 hS e nQ
          unfold yE at wL
          cases Up:X.P.underlying e with
          | none=>rw[Up] at wL;simp at wL
          | some d=>
            rw[Up] at wL
            cases d<;>simp at wL
            case struct fs=>exact .inl ⟨fs,rfl⟩
            case array k e'=>exact .inr (.inl ⟨k,e',rfl⟩)
            all_goals exact .inr (.inr ⟨by simp[r5,Up],by simp_all⟩)
         have asAgg:r5 X.P e ws= .agg ws→ ∃q:V×Value,(∃ws,TV X.P n e ws∧q.1=r5 X.P e ws)∧q.1.aq=true∧q.1.cq=true∧(∀φ,aj (free X) (still w φ) q.1 q.2)∧
            q.2.cells.size=X.P.cellsOf e∧ ∀j c,q.2.cells[j]? =some c→w.cell? ((a.add (i*X.P.cellsOf e)).add j)=some c:=by
          intro Qp
          refine⟨(r5 X.P e ws,.agg b6.toArray),⟨ws,g1,rfl⟩,?_,?_,fun φ=> ?_,yF _ (by simp[Value.cells])⟩
          ·simp only[Qp,V.aq,g3]
          ·simp[Qp,V.cq,V.isAgg]
          ·simp only[Qp,aj];exact⟨g2,_,rfl,by simpa using g4 φ⟩
         rcases Md with⟨fs,hs⟩ | ⟨k,e',hs⟩ | ⟨Qp,h1⟩
         ·exact asAgg (by simp[r5,hs])
         ·exact asAgg (by simp[r5,hs])
         ·match ws,h1,b6,kZ,g1,g2,g3,g4,yF with
          | [x],_,[c],_,g1,g2,g3,g4,yF=>
            have V3: ∀φ,aj (free X) (still w φ) x c:=fun φ=>by have:=g4 φ;simp only[ah] at this;exact this.1
            have V4:x.aF=true:=by simpa using g2
            refine⟨(x,c),⟨[x],g1,by simp[Qp]⟩,by simpa [V.al] using g3,by simp[V.cq,V4],V3,yF c ?_⟩
            rw[((V3 (fun _=> ⟨0,0,0⟩)).lJ V4).2]
        obtain⟨qs,q1,q2⟩:=DV len each
        refine⟨[.lit (X.P.cellsOf e) (qs.map (·.1))],?_,rfl,rfl,fun φ=> ?_⟩
        ·simp only[TV,hu]
         refine .inr ⟨_,rfl,by simp[q1];omega,fun x hx=> ?_⟩
         obtain⟨q,hq,rfl⟩:=ZJ.1 hx
         obtain⟨i,hi⟩:=ZS.1 hq
         exact(q2 i q hi).1
        ·simp only[   ah,aj,and_true]
         refine⟨AS fun x hx=> ?_,?_,some a,cap,qs.map (·.2),by simp[q1],by simp[q1];omega,?_,?_⟩
         ·obtain⟨q,hq,rfl⟩:=ZJ.1 hx
          obtain⟨i,hi⟩:=ZS.1 hq
          exact(q2 i q hi).2.1
         ·rw[Zx]
          intro x hx
          obtain⟨q,hq,rfl⟩:=ZJ.1 hx
          obtain⟨i,hi⟩:=ZS.1 hq
          exact(q2 i q hi).2.2.1
         ·refine ah.uJ Zm fun i y u hy hu=> ?_
          rw[ZI] at hy hu
          cases hq:qs[i]? with
          | none=>simp[hq] at hy
          | some q=>
            simp[hq] at hy hu
            subst hy hu
            exact(q2 i q hq).2.2.2.1 φ
         ·cases qs with
          | nil=>exact .inl rfl
          | cons q0 qs=>
            right
            have fL: ∀ (i:Nat) (q:V×Value),(q0::qs)[i]? =some q→ ∀j c,q.2.cells[j]? =some c→w.cell? ((a.add (i*X.P.cellsOf e)).add j)=some c:=fun i q hi=> (q2 i q hi).2.2.2.2.2
            have bM: ∀ (i:Nat) (q:V×Value),(q0::qs)[i]? =some q→q.2.cells.size=X.P.cellsOf e:=fun i q hi=> (q2 i q hi).2.2.2.2.1
            have h0:=fL 0 q0 rfl 0 (q0.2.cells[0]'(by rw[bM 0 q0 rfl];exact AJ)) (ZQ _)
            obtain⟨ab,ao,V5⟩:=a
            have wF:V5=none∧ab<w.heap.size:=by
             simp only[Nat.zero_mul,Addr.add,if_true,World.cell?] at h0
             split at h0
             ·      rename_i c T f hh
                    split at h0
                    ·simp at h0
                    ·rename_i hn
                     exact⟨by cases V5<;>simp_all,(Zu.1 hh).1⟩
             ·simp at h0
            obtain⟨rfl,bz⟩:=wF
            refine⟨ab,ao,rfl,?_,bz,fun i v hv=> ?_⟩
            ·rintro(⟨r,h1,_⟩ | h)
             ·simp[bk] at h1
             ·exact h
            ·rw[     ZI] at hv
             cases hq: (q0::qs)[i]? with
             | none=>simp[hq] at hv
             |      some q=>
                    simp[hq] at hv
                    subst hv
                    refine⟨bM i q hq,fun j c hc=> ?_⟩
                    have:=fL i q hq j c hc
                    have rB: ∀o m,Addr.add ⟨ab,o,none⟩ m=⟨ab,o+m,none⟩:=by
                     intro o m
                     simp only[Addr.add]
                     split
                     ·rename_i h0;subst h0;rfl
                     ·rfl
                    rw[rB,rB] at this
                    exact this
     | struct fs=>
       simp only[Zt,beq_iff_eq] at hp
       obtain⟨DU,kb⟩:=hp
       obtain⟨xs,m,hm,_,hlen,Mi,hf⟩:=DataW.trod_struct hu h
       obtain rfl:n=m:=Zl
       have key: ∀f ∈ fs.toList,∃vs,Good X w n f.type vs ((cs.drop f.offset).take (X.P.cellsOf f.type)):=by
        intro f Ju
        obtain⟨i,hi⟩:=ZS.1 Ju
        have nU:fs[i]? =some f:=by simpa using hi
        have h1:=hf i f nU
        have Yv:i<xs.length:=by rw[Mi];exact(Zu.1 nU).1
        rw[Zv Yv] at h1
        exact ih f.type _ _ (by have:=Zx.1 kb f Ju;simpa using this) h1
       obtain⟨vs,k1,k2,k3,k4⟩:=s8 DU hlen key
       exact⟨vs,by simp only[TV,hu];exact k1,k2,k3,fun φ=>by simpa using k4 φ⟩
     | array k e=>
       simp only[Zt,beq_iff_eq] at hp
       obtain⟨he,bM⟩:=hp
       obtain⟨xs,m,hm,_,hlen,Mi,hf⟩:=DataW.trod_array hu h
       obtain rfl:n=m:=Zl
       have key: ∀i,i< 0+k→ ∃vs,Good X w n e vs ((cs.drop (i*X.P.cellsOf e)).take (X.P.cellsOf e)):=by
        intro i hi
        have h1:=hf i Zl
        rw[Zv Zl] at h1
        exact ih e _ _ (by simpa using he) h1
       obtain⟨vs,k1,k2,k3,k4⟩:=vh k 0 (by rw[hlen,bM];simp) key
       exact⟨vs,by simp only[TV,hu];exact k1,k2,k3,fun φ=>by simpa using k4 φ⟩
     | _=>simp at hp
where
 AS {cs:List V} (h: ∀x ∈ cs,V.aq x=true):V.al cs=true:=by
  induction cs with
  | nil=>rfl
  | cons c cs ih=>simp only[V.al,Zt];exact⟨h c Zm,ih fun x hx=>h x (by simp[hx])⟩
end
end Go.AM
namespace Go.AM
open Go Go.RowKit
def CQ (X:TrEnv) (g:Nat) (af:bF):Prop:= ∃F fn h c,X.eT F=some g∧X.P.funcs[F]? =some fn∧(fn.name== "runtime.NumGoroutine")=false∧fn.body=some c∧xA X h fn=some af∧af.nparams≤fn.ntmps
def ie (X:TrEnv):List (Nat×bF)→Prop
 | []=>True
 | p::ps=>CQ X p.1 p.2∧ie X ps
def DW (X:TrEnv) (g:Nat) (fn:List V→Option eV):Prop:= ∃F,X.eT F=some g∧ ∀au res,fn au=some res→bJ X F au res
def nn (X:TrEnv):List (Nat× (List V→Option eV))→Prop
 | []=>True
 | p::ps=>DW X p.1 p.2∧nn X ps
theorem ie.mem {X:TrEnv}: ∀ {tab:List (Nat×bF)},ie X tab→ ∀p ∈ tab,CQ X p.1 p.2
 | [],_,p,hp=>by simp at hp
 | q::qs,h,p,hp=>by
   rcases Zz.1 hp with rfl| hp
   ·exact h.1
   ·exact ie.mem h.2 p hp
theorem nn.mem {X:TrEnv}: ∀ {tab:List (Nat× (List V→Option eV))},nn X tab→ ∀p ∈ tab,DW X p.1 p.2
 | [],_,p,hp=>by simp at hp
 | q::qs,h,p,hp=>by
   rcases Zz.1 hp with rfl| hp
   ·exact h.1
   ·exact nn.mem h.2 p hp
def DX (X:TrEnv) (g:Nat) (h:IN):Prop:= ∃F,X.eT F=some g∧ ∀C:aQ,(∀f F au res,X.eT F=some f→C f au=some res→bJ X F au res)→ ∀au res,h.h C au=some res→bJ X F au res
def pE (X:TrEnv):List (Nat×IN)→Prop
 | []=>True
 | p::ps=>DX X p.1 p.2∧pE X ps
theorem pE.mem {X:TrEnv}: ∀ {tab:List (Nat×IN)},pE X tab→ ∀p ∈ tab,DX X p.1 p.2
 | [],_,p,hp=>by simp at hp
 | q::qs,h,p,hp=>by
   rcases Zz.1 hp with rfl| hp
   ·exact h.1
   ·exact pE.mem h.2 p hp
def qq (X:TrEnv) (g:Nat) (it:List V→Option (List (List V))):Prop:= ∃F,X.eT F=some g∧ ∀caps xs,it caps=some xs→ ∀ (B:Nat→Prop) (K:Nat×Nat) (μ:Mu) (lb:Array Value),ah ⟨X,B,K⟩ μ caps lb.toList→aP ⟨X,B,K⟩ μ→tI ⟨X,B,K⟩ μ F lb xs
def j8 (X:TrEnv):List (Nat× (List V→Option (List (List V))))→Prop
 | []=>True
 | p::ps=>qq X p.1 p.2∧j8 X ps
theorem j8.mem {X:TrEnv}: ∀ {tab:List (Nat× (List V→Option (List (List V))))},j8 X tab→ ∀p ∈ tab,qq X p.1 p.2
 | [],_,p,hp=>by simp at hp
 | q::qs,h,p,hp=>by
   rcases Zz.1 hp with rfl| hp
   ·exact h.1
   ·exact j8.mem h.2 p hp
def eM:List Nat→Bool
 | []=>true
 | x::xs=> !xs.contains x &&eM xs
theorem fh: ∀ {l:List Nat},eM l=true→ ∀ {i j x:Nat},l[i]? =some x→l[j]? =some x→i=j
 | [],_,i,j,x,h,_=>by simp at h
 | y::l,hd,i,j,x,hi,hj=>by
   simp only[eM,Zt,Z4] at hd
   have ig: ∀k:Nat,l[k]? =some y→False:=fun k hk=>by
     have:l.contains y=true:=by simpa using List.mem_of_getElem? hk
     rw[hd.1] at this;simp at this
   cases i with
   | zero=>
     cases j with
     | zero=>rfl
     | succ j=>simp at hi hj;subst hi;exact(ig j hj).elim
   | succ i=>
     cases j with
     | zero=>simp at hi hj;subst hj;exact(ig i hi).elim
     | succ j=>simp at hi hj;rw[fh hd.2 hi hj]
def K6 (X:TrEnv) (g:Nat) (h:Lb):Prop:= ∃F,X.eT F=some g∧yA X F h
def Fe (X:TrEnv):List (Nat×Lb)→Prop
 | []=>True
 | p::ps=>K6 X p.1 p.2∧Fe X ps
theorem Fe.mem {X:TrEnv}: ∀ {tab:List (Nat×Lb)},Fe X tab→ ∀p ∈ tab,K6 X p.1 p.2
 | [],_,p,hp=>by simp at hp
 | q::qs,h,p,hp=>by
   rcases Zz.1 hp with rfl| hp
   ·exact h.1
   ·exact Fe.mem h.2 p hp
theorem Ff {P:Program} {fl:List Nat} {tl:List (Nat×Nat)} (hf:eM fl=true) (ht:eM (tl.map (·.2))=true) (hm:P.follows .mixedOrders=true) {tab:List (Nat×bF)} {ext:List (Nat× (List V→Option eV))} {hyb:List (Nat×IN)} {iter:List (Nat× (List V→Option (List (List V))))} {em:List (Nat×Lb)}:
  let X:TrEnv:=⟨P,fun F=>fl[F]?,fun t=> (tl.find? (·.1==t)).map (·.2)⟩
  ie X tab→nn X ext→pE X hyb→j8 X iter→Fe X em→rZ X (mkEM tab ext hyb iter em):=by
 intro X h1 h2 h3 h4 h5
 have oM: ∀F F' g,X.eT F=some g→X.eT F'=some g→F=F':=fun F F' g h h'=>fh hf h h'
 refine⟨fun t1 t2 k h h'=> ?_,hm,fun f af F h hF=> ?_,fun f au res F h hF=> ?_,fun g F caps xs h hF=> ?_,fun f F g h hF=> ?_,fun f g F h hF C hC au res hr=> ?_⟩
 ·simp only[X,Zq] at h h'
  obtain⟨p,hp,rfl⟩:=h
  obtain⟨q,hq,Yw⟩:=h'
  have e1:=aav hp
  have e2:=aav hq
  obtain⟨i,hi⟩:=ZS.1 (Z0 hp)
  obtain⟨j,hj⟩:=ZS.1 (Z0 hq)
  have:i=j:=fh ht (i:=i) (j:=j) (x:=p.2) (by simp[hi]) (by simp[hj,Yw])
  subst this
  rw[hi] at hj;injection hj with hj;subst hj
  simp at e1 e2;exact e1.symm.trans e2
 ·simp only[mkEM,NW,Zq] at h
  obtain⟨p,hp,rfl⟩:=h
  have e1:=aav hp
  simp at e1;subst e1
  obtain⟨F',fn,hh,c,k1,k2,k3,k4,k5,k6⟩:=ie.mem h1 p (Z0 hp)
  obtain rfl:=oM F F' _ hF k1
  exact⟨fn,hh,c,k2,k3,k4,k5,k6⟩
 ·simp only[mkEM,Kg] at h
  split at h
  ·rename_i p hp
   have e1:=aav hp
   simp at e1;subst e1
   obtain⟨F',k1,k2⟩:=nn.mem h2 p (Z0 hp)
   obtain rfl:=oM F F' _ hF k1
   exact k2 au res h
  ·simp at h
 ·simp only[mkEM,FR] at h
  split at h
  ·rename_i p hp
   have e1:=aav hp
   simp at e1;subst e1
   obtain⟨F',k1,k2⟩:=j8.mem h4 p (Z0 hp)
   obtain rfl:=oM F F' _ hF k1
   exact k2 caps xs h
  ·simp at h
 ·simp only[mkEM,FT,Zq] at h
  obtain⟨p,hp,rfl⟩:=h
  have e1:=aav hp
  simp at e1;subst e1
  obtain⟨F',k1,k2⟩:=Fe.mem h5 p (Z0 hp)
  obtain rfl:=oM F F' _ hF k1
  exact k2
 ·simp only[mkEM,C2,Zq] at h
  obtain⟨p,hp,rfl⟩:=h
  have e1:=aav hp
  simp at e1;subst e1
  obtain⟨F',k1,k2⟩:=pE.mem h3 p (Z0 hp)
  obtain rfl:=oM F F' _ hF k1
  exact k2 C hC au res hr
theorem AT {P:Program} {fl:List Nat} {tl:List (Nat×Nat)} (hf:eM fl=true) (ht:eM (tl.map (·.2))=true) (hm:P.follows .mixedOrders=true) {tab:List (Nat×bF)} {ext:List (Nat× (List V→Option eV))} {hyb:List (Nat×IN)} {iter:List (Nat× (List V→Option (List (List V))))}:
  let X:TrEnv:=⟨P,fun F=>fl[F]?,fun t=> (tl.find? (·.1==t)).map (·.2)⟩
  ie X tab→nn X ext→pE X hyb→j8 X iter→rZ X (UI tab ext hyb iter):=
 fun h1 h2 h3 h4=>Ff hf ht hm h1 h2 h3 h4 (em:=[]) trivial
theorem AU {μ μ':Mu} (h:Le μ μ') (ig: ∀b,¬μ.own b):Below μ.w.heap.size μ.w μ'.w:=
 ⟨h.os,h.tape,h.output,h.size,fun k hk=> (h.bR k hk (ig k)).1⟩
theorem Fg {X:TrEnv} {E:Env} (hE:rZ X E) {F g:Nat} (hF:X.eT F=some g) {fn:Func} (nE:X.P.funcs[F]? =some fn) (iE: (fn.name== "runtime.NumGoroutine")=false) {cd:Code} (fR:fn.body=some cd)
   {args:List V} {b:Bool} (NI:Ev E g args ⟨.bool b,[]⟩) (hp:V.al args=true) {w:World} {vals:List Value} (hv: ∀φ,ah (free X) (still w φ) args vals):
   Calls X.P F vals.toArray w fun e w'=>e= .returned (.bool b)∧Below w.heap.size w w'∧ ∀a,a.block<w.heap.size→w'.frozen? a=w.frozen? a:=by
 obtain⟨n,hn⟩:=NI
 have hs:bJ X F args ⟨.bool b,[]⟩:=vg hE n g F args _ hF hn
 have hO: (enter args).O=fun _=>bk:=qQ hp
 have hT: ∀ (t:Nat) (a:V),args[t]? =some a→(enter args).T t=a:=fun t a ha=>by rw[fp hp];simp[List.getD,ha]
 have yT:=hv (fun _=> ⟨0,0,0⟩)
 have hU:=hs (fun _=>False) (0,0) w (fun _=> ⟨0,0,0⟩) vals yT.length.symm (fun t v' yk=>by
   have hl:t<args.length:=by rw[yT.length];exact(Zs.1 yk).1
   obtain⟨u,hu,aV⟩:=yT.get (Zv hl)
   rw[yk] at hu;injection hu with hu;subst hu
   rw[hT t _ (Zv hl),hO];exact aV) (by
   rw[hO]
   exact⟨fun r es h=>by simp[bk] at h,fun r1 r2 _ h=>by simp[bk] at h,fun r h=>by simp[bk] at h,fun b h=>h.elim⟩)
 have MH: (callFunc F vals.toArray).run X.P w= .ok (.enter F vals.toArray) w:=by
   simp[callFunc,Sem.run_bind,program,Sem.run,nE,fR]
   simpa using iE
 rw[MH] at hU
 simp only[tq] at hU
 refine Calls.mono hU fun e w' he=> ?_
 cases e with
 | panicked c=>exact he.elim
 | outgrown=>exact he.elim
 | returned val=>
   obtain⟨φ',T',O',v0,refs,k1,k2,k3,k4,k5,k6⟩:=he
   have ig: ∀b,¬ (Mu.mk w (fun _=> ⟨0,0,0⟩) (enter args).O).own b:=fun b=>by rw[hO];rintro⟨r,h,_⟩;simp[bk] at h
   refine⟨?_,AU k1 ig,k1.frozen⟩
   ·have:=(k4.Qa k2 k3).pure rfl
    simp only[aj] at this
    rw[this]
end Go.AM
namespace Go.AM
open Ieee
theorem pF {n k:Nat} (h:n< 2 ^ k) (h0:n≠0):n.log2<k:=(Nat.log2_lt h0).2 h
theorem CR {mag:Nat}:Toward.even.cut false (mag<<< (52 - mag.log2)) (mag.log2 - 52)≤9007199254740992:=by
 have h1:mag< 2 ^ (mag.log2+1):=Nat.lt_log2_self
 have key:mag<<< (52 - mag.log2) / (1 <<< min (mag.log2 - 52) ((mag<<< (52 - mag.log2)).log2+2)) < 9007199254740992:=by
  by_cases he:mag.log2≤52
  ·have e2:mag.log2 - 52=0:=Zl
   rw[e2,Nat.zero_min]
   rw[aaL,aaL,Nat.pow_zero,Nat.mul_one,Nat.div_one]
   calc mag*2 ^ (52 - mag.log2) < 2 ^ (mag.log2+1)*2 ^ (52 - mag.log2):=Nat.mul_lt_mul_of_pos_right h1 (Nat.two_pow_pos _)
    _=2 ^ 53:=by rw[←Nat.pow_add];congr 1;omega
    _=9007199254740992:=Zn
  ·have e1:52 - mag.log2=0:=Zl
   rw[e1]
   simp only[Nat.shiftLeft_zero]
   rw[Nat.min_eq_left Zl]
   simp only[aaL,Nat.one_mul]
   refine Nat.div_lt_of_lt_mul ?_
   calc mag< 2 ^ (mag.log2+1):=h1
    _=2 ^ (mag.log2 - 52)*2 ^ 53:=by rw[←Nat.pow_add];congr 1;omega
    _=2 ^ (mag.log2 - 52)*9007199254740992:=by congr 1
 unfold Toward.cut
 simp only
 generalize mag<<< (52 - mag.log2) / (1 <<< min (mag.log2 - 52) ((mag<<< (52 - mag.log2)).log2+2))=low at key ⊢
 have hb: ∀b:Bool,low+b.toNat≤9007199254740992:=fun b=>by have:=Bool.toNat_le b;omega
 exact hb _
theorem oN {mag:Nat} {place:Int} (h0:mag≠0) (h1: -1000≤place+mag.log2) (h2:place+mag.log2≤200):
  ∃w:Nat,double.nearest false mag place=w∧w≤4503599627370496*((place+mag.log2+1022).toNat+2):=by
 refine⟨_,rfl,?_⟩
 unfold Format.nearest
 rw[if_neg h0]
 have e1:double.leastPlace= -1074:=by simp[Format.leastPlace,double]
 have e2:double.fractionBits=52:=rfl
 have e3:double.binade=4503599627370496:=by simp[Format.binade,double]
 have e4:max (place+(mag.log2:Int) - (double.fractionBits:Nat)) double.leastPlace=place+mag.log2 - 52:=by
  rw[e1,e2];omega
 rw[e4]
 simp only[Format.word,e1,e3]
 have a1: (place - (place+(mag.log2:Int) - 52)).toNat=52 - mag.log2:=Zl
 have a2: (place+(mag.log2:Int) - 52 - place).toNat=mag.log2 - 52:=Zl
 have a3: (place+(mag.log2:Int) - 52 - -1074).toNat=(place+mag.log2+1022).toNat:=by congr 1;omega
 rw[a1,a2,a3]
 have hk:=CR (mag:=mag)
 simp only[ZB,if_false]
 refine Z1 (Nat.min_le_left _ _) ?_
 rw[Nat.mul_add,aay]
 exact Nat.add_le_add_left hk _
theorem lp:double.leastPlace= -1074:=by simp[Format.leastPlace,double]
theorem bi:double.binade=4503599627370496:=by simp[Format.binade,double]
theorem sw:double.signWeight=9223372036854775808:=by simp[Format.signWeight,double]
theorem ir:double.infRung=9218868437227405312:=by simp[Format.infRung,Format.binade,double]
theorem vj {w T:Nat} (hT:w≤4503599627370496*(T+2)) (Y6:T≤1290): ∃m p,double.read w= .number false m p∧m< 9007199254740992∧ -1074≤p∧p≤ -1072+(T:Int):=by
 have hq:w / 4503599627370496≤T+2:=Nat.div_le_of_le_mul hT
 have h:w≤4503599627370496*1292:=Z1 hT (Nat.mul_le_mul_left _ Zl)
 have bz:w< 9223372036854775808:=Nat.lt_of_le_of_lt h Zn
 have il:w< 9218868437227405312:=Nat.lt_of_le_of_lt h Zn
 have h1:w / 9223372036854775808=0:=Nat.div_eq_of_lt bz
 have h2:w % 9223372036854775808=w:=aa0 bz
 have H9: (w / 9223372036854775808 % 2==1)=false:=by rw[h1];rfl
 unfold Format.read
 simp only[lp,bi,sw,ir,h2,H9]
 by_cases hb:w< 4503599627370496
 ·simp only[hb,if_true]
  exact⟨w,-1074,rfl,Nat.lt_trans hb Zn,Zn,by clear h1 h2 H9 hb h bz il hq hT;omega⟩
 ·have hc:=il
  simp only[hb,hc,if_true,if_false]
  refine⟨4503599627370496+w % 4503599627370496,-1074+((w / 4503599627370496 - 1:Nat):Int),rfl,?_,?_,?_⟩
  ·have h9:=Nat.mod_lt w (show 0 < 4503599627370496 by decide)
   clear h1 h2 H9 hc hb h bz il hT hq
   generalize w % 4503599627370496=r at h9 ⊢
   omega
  ·clear h1 h2 H9 hc hb h bz il hT hq
   generalize w / 4503599627370496 - 1=q
   omega
  ·clear h1 h2 H9 hc hb h bz il hT
   generalize w / 4503599627370496=q at hq ⊢
   omega
theorem np (n:Nat): ∀ (todo root:Nat),root*root≤n→Datum.rootFrom n todo root*Datum.rootFrom n todo root≤n
 | 0,root,h=>h
 | todo+1,root,h=>by
   unfold Datum.rootFrom
   by_cases h': (root+1 <<< todo)*(root+1 <<< todo)≤n
   ·simp only[h',if_true];exact np n todo _ h'
   ·simp only[h',if_false];exact np n todo _ h
theorem zu {n:Int} (h0:0 <n) (h1:n≤9223372036854775807):
  ∃r m,FloatKind.f64.format.sqrt (FloatKind.f64.nearest n)=some r∧(FloatKind.f64.decode r).toInt .zero=some m∧0≤m∧m≤9223372036854775807:=by
 have L5:n.natAbs≠0:=Zl
 have Yx:n.natAbs.log2< 63:=pF (by
  have: (2:Nat) ^ 63=9223372036854775808:=Zn
  omega) L5
 have eN:FloatKind.f64.nearest n=double.nearest false n.natAbs 0:=by
  have:decide (n< 0)=false:=by simp;omega
  simp only[FloatKind.nearest,FloatKind.encode,FloatKind.format,Format.write,this]
 obtain⟨w,hw,ME⟩:=oN (mag:=n.natAbs) (place:=0) L5 Zl Zl
 obtain⟨m,p,hr,hm,Q6,hp⟩:=vj ME (by clear ME;omega)
 clear ME
 rw[eN,hw]
 have Y7:p≤13:=by clear hm;omega
 have fin: ∀ (mag:Nat) (place:Int),mag≠0→ -1000≤place+mag.log2→place+mag.log2≤59→
   ∃r k,double.write (.number false mag place)=r∧(double.read r).toInt .zero=some k∧0≤k∧k≤9223372036854775807:=by
  intro mag place g0 g1 g2
  obtain⟨w2,xL,MK⟩:=oN (mag:=mag) (place:=place) g0 g1 Zl
  obtain⟨m3,p3,P5,Y8,Y9,Yy⟩:=vj MK (by clear MK;omega)
  clear MK
  have Za:p3≤9:=Zl
  refine⟨w2,_,xL,by rw[P5];rfl,?_⟩
  have Yz:Toward.zero.cut false (m3<<< p3.toNat) (-p3).toNat≤m3<<< p3.toNat:=by
   unfold Toward.cut
   simp only[Bool.toNat_false,aaz]
   exact Nat.div_le_self _ _
  have VY:m3<<< p3.toNat≤m3*512:=by
   rw[aaL]
   refine Nat.mul_le_mul_left _ ?_
   calc 2 ^ p3.toNat≤2 ^ 9:=Nat.pow_le_pow_right Zl Zl
     _=512:=Zn
  simp only[signed,ZB,if_false,Nat.shiftLeft_zero]
  omega
 show ∃r k,(((double.read w).root (double.fractionBits+2)).map double.write)=some r∧(double.read r).toInt .zero=some k∧0≤k∧k≤9223372036854775807
 rw[hr]
 simp only[Datum.root]
 by_cases Iv:m=0
 ·subst Iv
  rw[if_pos rfl]
  exact⟨0,0,by simp[Format.write,Format.nearest,Format.word],Zn,Zn,Zn⟩
 ·rw[if_neg Iv]
  simp only[ZB,if_false]
  have e2:double.fractionBits=52:=rfl
  rw[e2]
  have ID:m.log2< 53:=pF (by
   have: (2:Nat) ^ 53=9007199254740992:=Zn
   omega) Iv
  generalize V6:2*(52+2) - m.log2+((p - (2*(52+2) - m.log2:Nat)) % 2).toNat=more
  have Zb:56≤more∧more≤109:=Zl
  generalize YA:Datum.rootFrom (m<<< more) ((m<<< more).log2 / 2+1) 0=whole
  have hle:whole*whole≤m<<< more:=by rw[←YA];exact np _ _ _ Zm
  have hbound:whole< 2 ^ 81:=by
   rw[aaL] at hle
   have h2:m*2 ^ more< 2 ^ 162:=by
     calc m*2 ^ more< 2 ^ 53*2 ^ more:=Nat.mul_lt_mul_of_pos_right (by
           have: (2:Nat) ^ 53=9007199254740992:=Zn
           omega) (Nat.two_pow_pos _)
      _=2 ^ (53+more):=by rw[←Nat.pow_add]
      _≤2 ^ 162:=Nat.pow_le_pow_right Zl Zl
   rcases Nat.lt_or_ge whole (2 ^ 81) with h| h
   ·exact h
   · have:2 ^ 81*2 ^ 81≤whole*whole:=Nat.mul_le_mul h h
     have e: (2:Nat) ^ 81*2 ^ 81=2 ^ 162:=by rw[←Nat.pow_add]
     omega
  have AJ:m<<< more≠0:=by
   rw[aaL]
   exact Nat.mul_ne_zero Iv (by have:=Nat.two_pow_pos more;omega)
  generalize ML:2*whole+(whole*whole !=m<<< more).toNat=J4
  have K7:J4≠0:=by
   intro h
   rw[h] at ML
   have YB:whole=0:=Zl
   subst YB
   have: (0*0 !=m<<< more)=true:=by simp;exact fun h=>AJ h.symm
   rw[this] at ML
   simp at ML
  have Qq:J4< 2 ^ 83:=by
   have hb: (whole*whole !=m<<< more).toNat≤1:=Bool.toNat_le _
   have e: (2:Nat) ^ 83=4*2 ^ 81:=Zn
   omega
  have xD:J4.log2< 83:=pF Qq K7
  obtain⟨r,k,g1,g2,g3,g4⟩:=fin J4 ((p - more) / 2 - 1) K7 Zl Zl
  refine⟨r,k,?_,g2,g3,g4⟩
  simp only[ZE]
  exact congrArg some g1
end Go.AM
