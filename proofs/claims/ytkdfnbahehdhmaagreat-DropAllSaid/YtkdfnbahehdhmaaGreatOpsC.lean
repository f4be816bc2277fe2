/-
  Texts of the proof, joined by program: AmCall2, AmCall3, AmCall4, AmCall5, AmCall6, AmCall7, AmCall8, AmCall9, AmTag, AmSound, AmExt, AmGlue, AmTrod, AmSeat, AmSqrt. Own work.
-/
import Derived.Test.YtkdfnbahehdhmaaGreatOpsB
import Derived.Test.YtkdfnbahehdhmaaGreatBase
import Derived.Laws.Externs
import Derived.Laws.Cover3
import GoSem.Extern.MathSqrt
import Derived.ProofKit
import Derived.ChangeSame
import Derived.ChangeArms
import Derived.OpenShut
import Derived.Deep.Slices
import Derived.Carry
set_option linter.unusedSimpArgs false
set_option linter.unusedVariables false
namespace Go.AM
open Go Go.RowKit
def yz (P:Program) (r:Result Next) (R:Value→World→Prop):Prop:=
 match r with
 | .ok (.value v) w'=>R v w'
 | .ok (.enter f args) w'=>Calls P f args w' fun| .returned v,Dm=>R v Dm| _,_=>False
 | _=>False
theorem yz.upon {P:Program} {r:Result Next} {R:Value→World→Prop} (h:yz P r R) {o:Oper} {a:Go.Act} {next:Go.Act→World→Prop} {Q:Go.Exit→Go.Act→World→Prop}
   (hn: ∀v w,R v w→next (a.put o.dst v) w):o.upon P a next Q r:=by
 unfold yz at h
 split at h
 · exact hn _ _ h
 · rw[Oper.upon_enter]
   refine Calls.mono h fun e w' he=> ?_
   cases e with
   | returned v=>exact hn _ _ he
   | panicked c=>exact he.elim
   | outgrown=>exact he.elim
 · exact h.elim
def V.iL:V→Bool
 | .own .. =>true
 | c=>c.aP
theorem qZ {c:V} (h:c.aP=true):c.iL=true:=by cases c<;>simp_all[V.aP,V.iL]
inductive dt (n:Nat) (σ:St):V→V→List Nat→Prop
 | one {v0 v:V} {rs:List Nat} (h:cL n σ v0=some (v,rs)):dt n σ v0 v rs
 | many {vs vs':List V} {rs:List Nat} (h:cm n σ vs=some (vs',rs)):dt n σ (.tuple vs) (.tuple vs') rs
def cY (X:TrEnv) (F:FuncId) (args:List V) (res:fL):Prop:=
 ∀ (B:Nat→Prop) (K:Nat×Nat) (w:World) (φ0:Nat→Row) (vals:List Value),vals.length=args.length→
  (∀t v,vals[t]? =some v→ak ⟨X,B,K⟩ ⟨w,φ0,(enter args).O⟩ ((enter args).T t) v)→bu ⟨X,B,K⟩ ⟨w,φ0,(enter args).O⟩→
  yz X.P ((callFunc F vals.toArray).run X.P w) fun val w'=> ∃φ' T' O' v0 refs,Le ⟨w,φ0,(enter args).O⟩ ⟨w',φ',O'⟩∧bu ⟨X,B,K⟩ ⟨w',φ',O'⟩∧
     ak ⟨X,B,K⟩ ⟨w',φ',O'⟩ v0 val∧dt args.length ⟨T',O'⟩ v0 res.val refs∧distinct refs=true∧bW O' 0 args=some res.outs
inductive RQ (Y:Ctx) (μ:Mu) (n:Nat):V→List Nat→Value→Prop
 | pure {c:V} {val:Value} (hp:c.aC=true) (h:ak Y μ c val):RQ Y μ n c [] val
 | sl {r g off len:Nat} {es:List V} {val:Value} (hr:r<n) (bR: (μ.O r).es=some es) (hg: (μ.O r).gen=g) (hl:off+len≤es.length) (h:ak Y μ (.sl r g off len) val):RQ Y μ n (.sl r g off len) [r] val
 | own {r g off len:Nat} {es:List V} {val:Value} (hr:n≤r) (bR: (μ.O r).es=some es) (gX: (μ.O r).fz=false) (hg: (μ.O r).gen=g) (hl:off+len≤es.length) (hp:V.an (aN es off len)=true)
    (h:ak Y μ (.sl r g off len) val):RQ Y μ n (.own (μ.O r).sz (aN es off len)) [r] val
inductive wo (Y:Ctx) (μ:Mu) (n:Nat):List V→List Nat→List Value→Prop
 | nil:wo Y μ n [] [] []
 | cons {c:V} {rs rs':List Nat} {val:Value} {cs:List V} {vals:List Value} (h:RQ Y μ n c rs val) (hs:wo Y μ n cs rs' vals):wo Y μ n (c::cs) (rs++rs') (val::vals)
section
variable {Y:Ctx} {μ:Mu} {n:Nat}
theorem wo.length {cs:List V} {rs:List Nat} {vals:List Value} (h:wo Y μ n cs rs vals):cs.length=vals.length:=by
 induction h with
 | nil=>rfl
 | cons _ _ ih=>simp[ih]
theorem B6 (ho:bu Y μ) {r g off len:Nat} {es:List V} {val:Value} (bR: (μ.O r).es=some es) (gX: (μ.O r).fz=true) (hg: (μ.O r).gen=g) (hl:off+len≤es.length)
   (hp:V.an (aN es off len)=true) (h:ak Y μ (.sl r g off len) val):ak Y μ (.lit (μ.O r).sz (aN es off len)) val:=by
 simp only[ak] at h ⊢
 obtain⟨a,cap,rfl,hle,sW,cK⟩:=h
 obtain⟨a0,a1,a2⟩:=cK hg
 obtain⟨q1,q2,q3,q4⟩:=ho.row r es bR a0
 have oP: (aN es off len).length=len:=by simp[aN];omega
 have ll: (aN es off len).all V.c6=true:=by
   simp only[List.all_eq_true] at q3 ⊢
   exact fun x hx=> (cf (q3 x (List.mem_of_mem_drop (List.mem_of_mem_take hx)))).1
 by_cases zM:len=0
 · exact⟨hp,ll,a,cap,[],by rw[oP],by omega,by simp[aN,zM,aj],.inl (by simpa using oP.trans zM)⟩
 · rcases q4 with q4| ⟨cc,TT,vs,p1,p2,p3,p4⟩
   · omega
   · refine⟨hp,ll,a,cap,(vs.drop off).take len,by rw[oP],by omega,aj.take _ (aj.drop _ p3),.inr ⟨_,_,a2.resolve_left (by omega),?_,(Array.getElem?_eq_some_iff.1 p1).1,(p4.drop off).take len⟩⟩
     rintro(⟨r',k1,k2,k3,k4⟩ | hb)
     · by_cases e:r'=r
       · subst e;rw[gX] at k2;simp at k2
       · exact ho.inj r' r e k1 (by simp[bR]) k3 (by omega) k4
     · exact ho.sR r (by simp[bR]) (by omega) hb
theorem lD (ho:bu Y μ) {T:Nat→V} {c c':V} {rs:List Nat} {val:Value} (h:ak Y μ c val) (he:bO n ⟨T,μ.O⟩ c=some (c',rs)):RQ Y μ n c' rs val:=by
 unfold bO at he
 split at he
 · rename_i r g off len
   simp only at he
   split at he
   · rename_i es bR
     split at he
     · rename_i hc
       obtain⟨c1,c2,c3,c4⟩:=hc
       split at he
       · rename_i hr
         simp only[Option.some.injEq,Prod.mk.injEq] at he
         obtain⟨rfl,rfl⟩:=he
         exact .sl hr bR c1 c2 h
       · rename_i hr
         split at he
         · rename_i gX
           simp only[Option.some.injEq,Prod.mk.injEq] at he
           obtain⟨rfl,rfl⟩:=he
           exact .pure rfl (B6 ho bR gX c1 c2 c4 h)
         · rename_i gX
           simp only[Option.some.injEq,Prod.mk.injEq] at he
           obtain⟨rfl,rfl⟩:=he
           exact .own (by omega) bR (by simpa using gX) c1 c2 c4 h
     · simp at he
   · simp at he
 · split at he
   · rename_i hp
     simp only[Option.some.injEq,Prod.mk.injEq] at he
     obtain⟨rfl,rfl⟩:=he
     exact .pure hp h
   · simp at he
theorem gO (ho:bu Y μ) {T:Nat→V}: ∀ {cs cN:List V} {rs:List Nat} {vals:List Value},aj Y μ cs vals→bE n ⟨T,μ.O⟩ cs=some (cN,rs)→wo Y μ n cN rs vals
 | [],cN,rs,[],_,he=>by simp[bE] at he;obtain⟨rfl,rfl⟩:=he;exact .nil
 | [],_,_,_::_,h,_=>by simp[aj] at h
 | _::_,_,_,[],h,_=>by simp[aj] at h
 | c::cs,cN,rs,v::vs,h,he=>by
   simp only[aj] at h
   simp only[bE] at he
   split at he
   · rename_i c1 r1 S6 RR h1 h2
     simp only[Option.some.injEq,Prod.mk.injEq] at he
     obtain⟨rfl,rfl⟩:=he
     exact .cons (lD ho h.1 h1) (gO ho h.2 h2)
   · simp at he
inductive E1 (Y:Ctx) (μ:Mu) (n:Nat):V→List Nat→Value→Prop
 | cell {c:V} {rs:List Nat} {val:Value} (h:RQ Y μ n c rs val):E1 Y μ n c rs val
 | agg {cs:List V} {rs:List Nat} {vals:Array Value} (hc:cs.all V.iL=true) (h:wo Y μ n cs rs vals.toList):E1 Y μ n (.agg cs) rs (.agg vals)
inductive q6 (Y:Ctx) (μ:Mu) (n:Nat):List V→List Nat→List Value→Prop
 | nil:q6 Y μ n [] [] []
 | cons {c:V} {rs rs':List Nat} {val:Value} {cs:List V} {vals:List Value} (h:E1 Y μ n c rs val) (hs:q6 Y μ n cs rs' vals):q6 Y μ n (c::cs) (rs++rs') (val::vals)
theorem q7 {T:Nat→V} {O:Nat→Obj} {c c':V} {rs:List Nat} (he:bO n ⟨T,O⟩ c=some (c',rs)) (hc:c.aP=true):V.iL c'=true:=by
 unfold bO at he
 split at he
 · simp only at he
   split at he
   · split at he
     · split at he
       · simp only[Option.some.injEq,Prod.mk.injEq] at he
         obtain⟨rfl,rfl⟩:=he;rfl
       · split at he
         · simp only[Option.some.injEq,Prod.mk.injEq] at he
           obtain⟨rfl,rfl⟩:=he;rfl
         · simp only[Option.some.injEq,Prod.mk.injEq] at he
           obtain⟨rfl,rfl⟩:=he;rfl
     · simp at he
   · simp at he
 · split at he
   · simp only[Option.some.injEq,Prod.mk.injEq] at he
     obtain⟨rfl,rfl⟩:=he
     exact qZ hc
   · simp at he
theorem jZ {T:Nat→V} {O:Nat→Obj}: ∀ {cs cN:List V} {rs:List Nat},bE n ⟨T,O⟩ cs=some (cN,rs)→cs.all V.aP=true→
   cN.all V.iL=true
 | [],cN,rs,he,_=>by simp[bE] at he;obtain⟨rfl,rfl⟩:=he;rfl
 | c::cs,cN,rs,he,hc=>by
   simp only[List.all_cons,Bool.and_eq_true] at hc
   simp only[bE] at he
   split at he
   · rename_i c1 r1 S6 RR h1 h2
     simp only[Option.some.injEq,Prod.mk.injEq] at he
     obtain⟨rfl,rfl⟩:=he
     have i1:=q7 h1 hc.1
     have i2:=jZ h2 hc.2
     rw[List.all_cons,i2,Bool.and_true]
     exact i1
   · simp at he
theorem wo.bZ {cs:List V} {rs:List Nat} {vals:List Value} (h:wo Y μ n cs rs vals) (hp:V.an cs=true):aj Y μ cs vals∧rs=[]:=by
 induction h with
 | nil=>simp[aj]
 | cons h hs ih=>
   simp only[V.an,Bool.and_eq_true] at hp
   obtain⟨i1,i2⟩:=ih hp.2
   cases h with
   | pure A7 hv=>simp only[aj];exact⟨⟨hv,i1⟩,by simpa using i2⟩
   | sl=>simp[V.aC] at hp
   | own=>simp[V.aC] at hp
theorem o6 (ho:bu Y μ) {T:Nat→V} {v v':V} {rs:List Nat} {val:Value} (h:ak Y μ v val) (he:cL n ⟨T,μ.O⟩ v=some (v',rs)):E1 Y μ n v' rs val:=by
 unfold cL at he
 split at he
 · rename_i hp
   simp only[Option.some.injEq,Prod.mk.injEq] at he
   obtain⟨rfl,rfl⟩:=he
   exact .cell (.pure hp h)
 · split at he
   · simp only[ak] at h
     obtain⟨h1,vs,rfl,h2⟩:=h
     split at he
     · rename_i cN rs' db
       simp only[Option.some.injEq,Prod.mk.injEq] at he
       obtain⟨rfl,rfl⟩:=he
       exact .agg (jZ db h1) (gO ho h2 db)
     · simp at he
   · simp only[ak] at h
     obtain⟨F,cv,rfl,h1,h2⟩:=h
     split at he
     · rename_i cN rs' db
       split at he
       · rename_i hp
         simp only[Option.some.injEq,Prod.mk.injEq] at he
         obtain⟨rfl,rfl⟩:=he
         obtain⟨k1,k2⟩:=(gO ho h2 db).bZ hp
         subst k2
         refine .cell (.pure (by simpa [V.aC] using hp) ?_)
         simp only[ak]
         exact⟨F,cv,rfl,h1,k1⟩
       · simp at he
     · simp at he
   · exact .cell (lD ho h he)
theorem nK (ho:bu Y μ) {T:Nat→V}: ∀ {cs cN:List V} {rs:List Nat} {vals:List Value},aj Y μ cs vals→cm n ⟨T,μ.O⟩ cs=some (cN,rs)→q6 Y μ n cN rs vals
 | [],cN,rs,[],_,he=>by simp[cm] at he;obtain⟨rfl,rfl⟩:=he;exact .nil
 | [],_,_,_::_,h,_=>by simp[aj] at h
 | _::_,_,_,[],h,_=>by simp[aj] at h
 | c::cs,cN,rs,v::vs,h,he=>by
   simp only[aj] at h
   simp only[cm] at he
   split at he
   · rename_i c1 r1 S6 RR h1 h2
     simp only[Option.some.injEq,Prod.mk.injEq] at he
     obtain⟨rfl,rfl⟩:=he
     exact .cons (o6 ho h.1 h1) (nK ho h.2 h2)
   · simp at he
end
end Go.AM
namespace Go.AM
open Go Go.RowKit
def fu (φ:Nat→Row) (ws:List dV) (i:Nat):Row:=
 match ws with
 | []=> ⟨0,0,0⟩
 | w::ws=>if w.i=i then(match w.fresh with| none=>φ w.r| some _=> ⟨0,0,0⟩) else fu φ ws i
inductive th (X:Ctx) (μ:Mu) (r0 i:Nat) (rs:List Nat) (ws:List dV):V→Value→Prop
 | plain {a:V} {v:Value} (hp:V.aC a=true) (hs:jd X μ rs a v):th X μ r0 i rs ws a v
 | sl {r g off len:Nat} {es:List V} {v:Value} (hw: (⟨i,r,none⟩:dV) ∈ ws) (bR: (μ.O r).es=some es) (gX: (μ.O r).fz=false) (cu: (μ.O r).gen=g) (mh:V.an es=true)
    (gV:off+len≤es.length) (hv:ak X μ (.sl r g off len) v):th X μ r0 i rs ws (.msl (μ.O r).sz es off len) v
 | ptr {r g idx off:Nat} {es:List V} {v:Value} (hw: (⟨i,r,none⟩:dV) ∈ ws) (bR: (μ.O r).es=some es) (gX: (μ.O r).fz=false) (cu: (μ.O r).gen=g) (mh:V.an es=true)
    (hv:ak X μ (.ptr r g idx off) v):th X μ r0 i rs ws (.mptr (μ.O r).sz es idx off) v
 | fresh {sz:Nat} {v:Value} (hw: (⟨i,r0+i,some sz⟩:dV) ∈ ws) (cH:0 <sz) (hv: ∃a,v= .slice a 0 0):th X μ r0 i rs ws (.msl sz [] 0 0) v
section
variable {X:Ctx} {μ:Mu} {r0:Nat}
theorem th.more {i:Nat} {rs rs':List Nat} {ws vX:List dV} {a:V} {v:Value} (h:th X μ r0 i rs ws a v) (h1: ∀r ∈ rs,r ∈ rs') (h2: ∀w ∈ ws,w ∈ vX):th X μ r0 i rs' vX a v:=by
 cases h with
 | plain hp hs=>exact .plain hp (hs.more h1)
 | sl hw a b c d e f=>exact .sl (h2 _ hw) a b c d e f
 | ptr hw a b c d f=>exact .ptr (h2 _ hw) a b c d f
 | fresh hw a b=>exact .fresh (h2 _ hw) a b
theorem kf.at {i:Nat} {as:List V} {vs:List Value} {rs:List Nat} {ws:List dV} (h:kf X μ r0 i as vs rs ws):
   as.length=vs.length∧(∀w ∈ ws,i≤w.i)∧(∀t a,as[t]? =some a→ ∃v,vs[t]? =some v∧th X μ r0 (i+t) rs ws a v):=by
 induction h with
 | nil i=>simp
 | @plain i a v rs rs' as vs ws hp hs h ih=>
   obtain⟨i1,i2,i3⟩:=ih
   refine⟨by simp[i1],fun w hw=>by have:=i2 w hw;omega,fun t b hb=> ?_⟩
   cases t with
   | zero=>simp at hb;subst hb;exact⟨v,by simp,.plain hp (hs.more (by simp+contextual))⟩
   | succ t=>
     obtain⟨v',k1,k2⟩:=i3 t b (by simpa using hb)
     refine⟨v',by simpa using k1,?_⟩
     have e:i+(t+1)=i+1+t:=by omega
     rw[e];exact k2.more (by simp+contextual) (fun w hw=>hw)
 | @sl i r g off len es v rs as vs ws bR gX cu mh gV hv h ih=>
   obtain⟨i1,i2,i3⟩:=ih
   refine⟨by simp[i1],fun w hw=> ?_,fun t b hb=> ?_⟩
   · rcases List.mem_cons.1 hw with rfl| hw
     · exact Nat.le_refl _
     · have:=i2 w hw;omega
   · cases t with
     | zero=>simp at hb;subst hb;exact⟨v,by simp,.sl (by simp) bR gX cu mh gV hv⟩
     | succ t=>
       obtain⟨v',k1,k2⟩:=i3 t b (by simpa using hb)
       refine⟨v',by simpa using k1,?_⟩
       have e:i+(t+1)=i+1+t:=by omega
       rw[e];exact k2.more (fun r hr=>hr) (fun w hw=>by simp[hw])
 | @ptr i r g idx off es v rs as vs ws bR gX cu mh hv h ih=>
   obtain⟨i1,i2,i3⟩:=ih
   refine⟨by simp[i1],fun w hw=> ?_,fun t b hb=> ?_⟩
   · rcases List.mem_cons.1 hw with rfl| hw
     · exact Nat.le_refl _
     · have:=i2 w hw;omega
   · cases t with
     | zero=>simp at hb;subst hb;exact⟨v,by simp,.ptr (by simp) bR gX cu mh hv⟩
     | succ t=>
       obtain⟨v',k1,k2⟩:=i3 t b (by simpa using hb)
       refine⟨v',by simpa using k1,?_⟩
       have e:i+(t+1)=i+1+t:=by omega
       rw[e];exact k2.more (fun r hr=>hr) (fun w hw=>by simp[hw])
 | @fresh i sz v rs as vs ws cH hv h ih=>
   obtain⟨i1,i2,i3⟩:=ih
   refine⟨by simp[i1],fun w hw=> ?_,fun t b hb=> ?_⟩
   · rcases List.mem_cons.1 hw with rfl| hw
     · exact Nat.le_refl _
     · have:=i2 w hw;omega
   · cases t with
     | zero=>simp at hb;subst hb;exact⟨v,by simp,.fresh (by simp) cH hv⟩
     | succ t=>
       obtain⟨v',k1,k2⟩:=i3 t b (by simpa using hb)
       refine⟨v',by simpa using k1,?_⟩
       have e:i+(t+1)=i+1+t:=by omega
       rw[e];exact k2.more (fun r hr=>hr) (fun w hw=>by simp[hw])
inductive FU:Nat→List dV→Prop
 | nil (i:Nat):FU i []
 | cons {i:Nat} {w:dV} {ws:List dV} (h:i≤w.i) (hs:FU (w.i+1) ws):FU i (w::ws)
theorem FU.le {i j:Nat} {ws:List dV} (h:FU j ws) (hij:i≤j):FU i ws:=by
 cases h with
 | nil=>exact .nil _
 | cons h hs=>exact .cons (by omega) hs
theorem FU.mem {i:Nat} {ws:List dV} (h:FU i ws): ∀w ∈ ws,i≤w.i:=by
 induction h with
 | nil=>simp
 | cons h hs ih=>
   intro w hw
   rcases List.mem_cons.1 hw with rfl| hw
   · exact h
   · have:=ih w hw;omega
theorem kf.inc {i:Nat} {as:List V} {vs:List Value} {rs:List Nat} {ws:List dV} (h:kf X μ r0 i as vs rs ws):FU i ws:=by
 induction h with
 | nil i=>exact .nil i
 | plain hp hs h ih=>exact ih.le (by omega)
 | sl _ _ _ _ _ _ h ih=>exact .cons (by simp) ih
 | ptr _ _ _ _ _ h ih=>exact .cons (by simp) ih
 | fresh _ _ h ih=>exact .cons (by simp) ih
theorem iv {φ:Nat→Row} {i:Nat} {ws:List dV} (h:FU i ws): ∀w ∈ ws,fu φ ws w.i=(match w.fresh with| none=>φ w.r| some _=> ⟨0,0,0⟩):=by
 induction h with
 | nil=>simp
 | @cons i w ws h hs ih=>
   intro w' hw
   rcases List.mem_cons.1 hw with rfl| hw
   · simp[fu]
   · have:=hs.mem w' hw
     rw[fu,if_neg (by omega)]
     exact ih w' hw
theorem FU.uniq {i:Nat} {ws:List dV} (h:FU i ws): ∀w ∈ ws,∀w' ∈ ws,w.i=w'.i→w=w':=by
 induction h with
 | nil=>simp
 | @cons i w ws h hs ih=>
   intro a ha b hb e
   rcases List.mem_cons.1 ha with ha| ha<;>rcases List.mem_cons.1 hb with hb| hb
   · rw[ha,hb]
   · have:=hs.mem b hb;subst ha;omega
   · have:=hs.mem a ha;subst hb;omega
   · exact ih a ha b hb e
theorem o7: ∀ {ws:List dV},distinct (ws.map (·.r))=true→ ∀w ∈ ws,∀w' ∈ ws,w.r=w'.r→w=w'
 | [],_,_,h,_,_,_=>by simp at h
 | w::ws,hd,a,ha,b,hb,e=>by
   simp only[List.map_cons,distinct,Bool.and_eq_true,Bool.not_eq_true',List.contains_eq_mem,decide_eq_false_iff_not] at hd
   rcases List.mem_cons.1 ha with ha| ha<;>rcases List.mem_cons.1 hb with hb| hb
   · rw[ha,hb]
   · exact absurd (List.mem_map.2 ⟨b,hb,by rw[←e,ha]⟩) hd.1
   · exact absurd (List.mem_map.2 ⟨a,ha,by rw[e,hb]⟩) hd.1
   · exact o7 hd.2 a ha b hb e
def dZ (X:Ctx) (μ:Mu) (rs:List Nat) (ws:List dV) (b:Nat):Prop:=
 X.Mk b∨ ∃r,r ∉ rs∧r ∉ ws.map (·.r)∧(μ.O r).es.isSome=true∧(μ.O r).fz=false∧(μ.φ r).cap≠0∧(μ.φ r).dc=b
theorem jA {as:List V} {vals:List Value} {rs:List Nat} {ws:List dV} (hp:kf X μ r0 0 as vals rs ws) (j:Nat):
   (enter as).O j=bJ∨
   (∃r es,(⟨j,r,none⟩:dV) ∈ ws∧(μ.O r).es=some es∧(μ.O r).fz=false∧V.an es=true∧((enter as).O j).gen=0∧((enter as).O j).sz=(μ.O r).sz∧((enter as).O j).fz=false∧((enter as).O j).es=some es∧fu μ.φ ws j=μ.φ r)∨
   (∃sz,(⟨j,r0+j,some sz⟩:dV) ∈ ws∧0 <sz∧((enter as).O j).gen=0∧((enter as).O j).sz=sz∧((enter as).O j).fz=false∧((enter as).O j).es=some []∧fu μ.φ ws j=⟨0,0,0⟩):=by
 obtain⟨hl,-,nk⟩:=hp.at
 have hi:=hp.inc
 cases ha:as[j]? with
 | none=>left;simp[enter,ha]
 | some a=>
   obtain⟨v,hv,hA⟩:=nk j a ha
   simp only[Nat.zero_add] at hA
   cases hA with
   | plain mh hs=>
     left
     cases a<;>simp[V.aC] at mh<;>simp[enter,ha]
   | @sl r g off len es v hw bR gX cu mh gV A8=>
     right;left
     exact⟨r,es,hw,bR,gX,mh,by simp[enter,ha],by simp[enter,ha],by simp[enter,ha],by simp[enter,ha],by have:=iv (φ:=μ.φ) hi _ hw;simpa using this⟩
   | @ptr r g idx off es v hw bR gX cu mh A8=>
     right;left
     exact⟨r,es,hw,bR,gX,mh,by simp[enter,ha],by simp[enter,ha],by simp[enter,ha],by simp[enter,ha],by have:=iv (φ:=μ.φ) hi _ hw;simpa using this⟩
   | @fresh sz v hw cH A8=>
     right;right
     exact⟨sz,hw,cH,by simp[enter,ha],by simp[enter,ha],by simp[enter,ha],by simp[enter,ha],by have:=iv (φ:=μ.φ) hi _ hw;simpa using this⟩
theorem xo {as:List V} {vals:List Value} {rs:List Nat} {ws:List dV} (hp:kf X μ r0 0 as vals rs ws) {b:Nat} (h: (⟨μ.w,fu μ.φ ws,(enter as).O⟩:Mu).own b):
   ∃i r,(⟨i,r,none⟩:dV) ∈ ws∧(μ.O r).es.isSome=true∧(μ.O r).fz=false∧(μ.φ r).cap≠0∧(μ.φ r).dc=b:=by
 obtain⟨j,h1,h2,h3,h4⟩:=h
 simp only at h1 h2 h3 h4
 rcases jA hp j with h| ⟨r,es,k1,k2,k3,k4,k5,k6,k7,k8,k9⟩ | ⟨sz,k1,k2,k3,k4,k5,k6,k7⟩
 · rw[h] at h1;simp[bJ] at h1
 · rw[k9] at h3 h4
   exact⟨j,r,k1,by simp[k2],k3,h3,h4⟩
 · rw[k7] at h3;simp at h3
theorem E2 {as:List V} {vals:List Value} {rs:List Nat} {ws:List dV} (ho:bu X μ) (hp:kf X μ r0 0 as vals rs ws) (MG:apart rs (ws.map (·.r))=true) {b:Nat}
   (h:Own ⟨X.toTrEnv,dZ X μ rs ws,X.tok⟩ ⟨μ.w,fu μ.φ ws,(enter as).O⟩ b):
   Own X μ b∧ ∀r ∈ rs,(μ.O r).es.isSome=true→(μ.φ r).cap≠0→b≠(μ.φ r).dc:=by
 rcases h with h| h
 · obtain⟨i,r,h1,h2,h3,h4,h5⟩:=xo hp h
   refine⟨.inl ⟨r,h2,h3,h4,h5⟩,fun r' rY k1 k2 e=> ?_⟩
   have c7:r≠r':=by
     rintro rfl
     have:=List.all_eq_true.1 MG r (List.mem_map.2 ⟨_,h1,rfl⟩)
     simp[rY] at this
   exact ho.inj r r' c7 h2 k1 h4 k2 (h5.trans e)
 · rcases h with h| ⟨r,h0,h1,h2,h3,h4,h5⟩
   · refine⟨.inr h,fun r' rY k1 k2 e=>ho.sR r' k1 k2 (e ▸ h)⟩
   · refine⟨.inl ⟨r,h2,h3,h4,h5⟩,fun r' rY k1 k2 e=> ?_⟩
     have c7:r≠r':=fun e=>h0 (e ▸ rY)
     exact ho.inj r r' c7 h2 k1 h4 k2 (h5.trans e)
theorem Ag {as:List V} {vals:List Value} {rs:List Nat} {ws:List dV} (ho:bu X μ) (hp:kf X μ r0 0 as vals rs ws) (MG:apart rs (ws.map (·.r))=true) (hd:distinct (ws.map (·.r))=true):
   vals.length=as.length∧(∀t v,vals[t]? =some v→ak ⟨X.toTrEnv,dZ X μ rs ws,X.tok⟩ ⟨μ.w,fu μ.φ ws,(enter as).O⟩ ((enter as).T t) v)∧
     bu ⟨X.toTrEnv,dZ X μ rs ws,X.tok⟩ ⟨μ.w,fu μ.φ ws,(enter as).O⟩:=by
 have im:=fun b=>E2 (b:=b) ho hp MG
 obtain⟨hl,-,nk⟩:=hp.at
 have hi:=hp.inc
 refine⟨hl.symm,fun t v hv=> ?_,?_⟩
 · have ha:t<as.length:=by rw[hl];exact(List.getElem?_eq_some_iff.1 hv).1
   obtain⟨v',A6,hA⟩:=nk t as[t] (List.getElem?_eq_getElem ha)
   rw[hv] at A6;injection A6 with A6;subst A6
   have Ah:as[t]? =some as[t]:=List.getElem?_eq_getElem ha
   simp only[Nat.zero_add] at hA
   generalize hae:as[t]=a at hA Ah
   cases hA with
   | plain mh hs=>
     have: (enter as).T t=a:=by cases a<;>simp[V.aC] at mh<;>simp[enter,Ah]
     rw[this]
     exact hs _ _ rfl im
   | @sl r g off len es v hw bR gX cu mh gV A8=>
     have e1: (enter as).T t= .sl t 0 off len:=by simp[enter,Ah]
     have e2: ((enter as).O t).gen=0∧((enter as).O t).sz=(μ.O r).sz:=by simp[enter,Ah]
     have e3:fu μ.φ ws t=μ.φ r:=by have:=iv (φ:=μ.φ) hi _ hw;simpa using this
     rw[e1]
     simp only[ak] at A8 ⊢
     obtain⟨a,cap,rfl,q1,q2,q3⟩:=A8
     refine⟨a,cap,rfl,q1,Nat.zero_le _,fun _=> ?_⟩
     rw[e2.2,e3];exact q3 cu
   | @ptr r g idx off es v hw bR gX cu mh A8=>
     have e1: (enter as).T t= .ptr t 0 idx off:=by simp[enter,Ah]
     have e2: ((enter as).O t).gen=0∧((enter as).O t).sz=(μ.O r).sz:=by simp[enter,Ah]
     have e3:fu μ.φ ws t=μ.φ r:=by have:=iv (φ:=μ.φ) hi _ hw;simpa using this
     rw[e1]
     simp only[ak] at A8 ⊢
     obtain⟨a,rfl,q2,q3⟩:=A8
     refine⟨a,rfl,Nat.zero_le _,fun _=> ?_⟩
     rw[e2.2,e3];exact q3 cu
   | @fresh sz v hw cH A8=>
     have e1: (enter as).T t= .sl t 0 0 0:=by simp[enter,Ah]
     have e3:fu μ.φ ws t=⟨0,0,0⟩:=by have:=iv (φ:=μ.φ) hi _ hw;simpa using this
     rw[e1]
     obtain⟨a,rfl⟩:=A8
     simp only[ak]
     exact⟨a,0,rfl,Nat.le_refl _,Nat.zero_le _,fun _=> ⟨by simp[enter,Ah,cH],by rw[e3],.inl rfl⟩⟩
 · refine⟨ fun j es bR=> ?_,fun j1 j2 c7 h1 h2 h3 h4=> ?_,fun j h1 h2 hb=> ?_,fun b hb=> ?_⟩
   · rcases jA hp j with h| ⟨r,es',k1,k2,k3,k4,k5,k6,k7,k8,k9⟩ | ⟨sz,k1,k2,k3,k4,k5,k6,k7⟩
     · simp only[h,bJ] at bR;simp at bR
     · simp only at bR
       rw[k8] at bR;injection bR with bR;subst bR
       rcases ho.ok r es' k2 with⟨q1,q2,q3,q4⟩ | ⟨m1,m2,ob,m3,m4⟩
       · refine .inl ?_
         unfold kr
         simp only[k6,k9]
         refine⟨q1,q2,q3,q4.imp id ?_⟩
         rintro⟨c,T,vs,p1,p2,p3,p4⟩
         exact⟨c,T,vs,p1,p2,bQ (X:=X) (μ:=μ) (μ':=⟨μ.w,fu μ.φ ws,(enter as).O⟩) rfl (fun b hb=> (im b hb).1) k4 p3,p4⟩
       · refine .inr ?_
         unfold qL
         simp only[k6,k9]
         refine⟨m1,m2,ob,m3,?_⟩
         rcases m4 with⟨ents,clock,e1,e2,e3⟩ | m4| ⟨mo,since,ng,e1,e2,e3⟩
         · exact .inl ⟨ents,clock,e1,bQ (X:=X) (μ:=μ) (μ':=⟨μ.w,fu μ.φ ws,(enter as).O⟩) rfl (fun b hb=> (im b hb).1) k4 e2,e3⟩
         · exact .inr (.inl m4)
         · subst e2
           refine .inr (.inr ⟨mo,since,ng,e1,rfl,e3.imp id ?_⟩)
           rintro⟨m,ents,l1,l2,l3,l4,l5,l6⟩
           exact⟨m,ents,l1,fun h=>l2 (im m h).1,l3,l4,l5,bQ (X:=X) (μ:=μ) (μ':=⟨μ.w,fu μ.φ ws,(enter as).O⟩) rfl (fun b hb=> (im b hb).1) (by simpa [V.an,V.aC] using k4) l6⟩
     · simp only at bR
       rw[k6] at bR;injection bR with bR;subst bR
       refine .inl ?_
       unfold kr
       simp only[k4,k7]
       exact⟨k2,by simp,rfl,by simp⟩
   · simp only at h1 h2 h3 h4 ⊢
     rcases jA hp j1 with h| ⟨r,es',k1,k2,k3,k4,k5,k6,k7,k8,k9⟩ | ⟨sz,k1,k2,k3,k4,k5,k6,k7⟩
     · rw[h] at h1;simp[bJ] at h1
     · rcases jA hp j2 with h| ⟨r',Xp,l1,l2,l3,l4,l5,l6,l7,l8,l9⟩ | ⟨sz,l1,l2,l3,l4,l5,l6,l7⟩
       · rw[h] at h2;simp[bJ] at h2
       · rw[k9] at h3 ⊢
         rw[l9] at h4 ⊢
         refine ho.inj r r' (fun e=> ?_) (by simp[k2]) (by simp[l2]) h3 h4
         have:=o7 hd _ k1 _ l1 e
         injection this with e1;exact c7 e1
       · rw[l7] at h4;simp at h4
     · rw[k7] at h3;simp at h3
   · simp only at h1 h2 hb
     rcases jA hp j with h| ⟨r,es',k1,k2,k3,k4,k5,k6,k7,k8,k9⟩ | ⟨sz,k1,k2,k3,k4,k5,k6,k7⟩
     · rw[h] at h1;simp[bJ] at h1
     · rw[k9] at h2 hb
       rcases hb with hb| ⟨r',g0,g1,g2,g3,g4,g5⟩
       · exact ho.sR r (by simp[k2]) h2 hb
       · have c7:r'≠r:=fun e=>g1 (List.mem_map.2 ⟨_,k1,e.symm⟩)
         exact ho.inj r' r c7 g2 (by simp[k2]) g4 h2 g5
     · rw[k7] at h2;simp at h2
   · rcases hb with hb| ⟨r',g0,g1,g2,g3,g4,g5⟩
     · exact ho.blt b hb
     · obtain⟨es',he⟩:=Option.isSome_iff_exists.1 g2
       rw[←g5];exact fE.dc (ho.ok r' es' he) g4
end
end Go.AM
namespace Go.AM
open Go Go.RowKit
section
variable {X X':Ctx} {μ μ':Mu}
mutual
theorem weaken (hX:X'.toTrEnv=X.toTrEnv) (hk:X'.tok=X.tok) (hw:μ'.w=μ.w) (hφ:μ'.φ=μ.φ) (hO: ∀r,(μ'.O r).gen=(μ.O r).gen∧(μ'.O r).sz=(μ.O r).sz) (ho: ∀b,Own X' μ' b→Own X μ b): ∀ {x:V} {v:Value},ak X μ x v→ak X' μ' x v
 | .bool _,_,h| .int ..,_,h| .float _,_,h| .str _,_,h| .nilp,_,h| .nilfn,_,h| .nili,_,h| .nils,_,h=>by simpa [ak] using h
 | .any,_,_=>by simp[ak]
 | .own ..,_,h| .msl ..,_,h| .mptr ..,_,h=>by simp[ak] at h
 | .agg cs,_,h=>by
   simp only[ak] at h ⊢
   obtain⟨h1,vs,rfl,h2⟩:=h
   exact⟨h1,vs,rfl,ml hX hk hw hφ hO ho h2⟩
 | .tuple cs,_,h=>by
   simp only[ak] at h ⊢
   obtain⟨vs,rfl,h2⟩:=h
   exact⟨vs,rfl,ml hX hk hw hφ hO ho h2⟩
 | .fn f cs,_,h=>by
   simp only[ak] at h ⊢
   obtain⟨F,cv,rfl,h1,h2⟩:=h
   exact⟨F,cv,rfl,by rw[hX];exact h1,ml hX hk hw hφ hO ho h2⟩
 | .iface t x,_,h=>by
   simp only[ak] at h ⊢
   obtain⟨F,y,rfl,h1,h2⟩:=h
   exact⟨F,y,rfl,by rw[hX];exact h1,weaken hX hk hw hφ hO ho h2⟩
 | .lit sz xs,_,h=>by
   simp only[ak] at h ⊢
   obtain⟨h0,ke,a,cap,vs,rfl,h1,h2,h3⟩:=h
   refine⟨h0,ke,a,cap,vs,rfl,h1,ml hX hk hw hφ hO ho h2,h3.imp id ?_⟩
   rintro⟨b,o,rfl,hb,hs,hr⟩
   exact⟨b,o,rfl,fun hh=>hb (ho b hh),by rw[hw];exact hs,by rw[hw];exact hr⟩
 | .sl r g off len,_,h=>by
   simp only[ak] at h ⊢
   rw[hφ,(hO r).1,(hO r).2];exact h
 | .ptr r g idx off,_,h=>by
   simp only[ak] at h ⊢
   rw[hφ,(hO r).1,(hO r).2];exact h
 | .litk sz xs,_,h=>by
   simp only[ak] at h ⊢
   obtain⟨h0,ke,a,cap,vs,rfl,h1,h2,h3⟩:=h
   refine⟨h0,ke,a,cap,vs,rfl,h1,ml hX hk hw hφ hO ho h2,h3.imp id ?_⟩
   rintro⟨rfl,hb,hs,hr⟩
   rw[hk]
   exact⟨rfl,fun hh=>hb (ho _ hh),by rw[hw];exact hs,by rw[hw];exact hr⟩
 | .epk i sz e off,_,h=>by
   simp only[ak] at h ⊢
   obtain⟨h0,ke,x,rfl,hb,hs,h1,hr⟩:=h
   rw[hk]
   exact⟨h0,ke,x,rfl,fun hh=>hb (ho _ hh),by rw[hw];exact hs,weaken hX hk hw hφ hO ho h1,by rw[hw];exact hr⟩
 | .eptr e off,_,h=>by
   simp only[ak] at h ⊢
   obtain⟨h0,ke,b,o,sz,x,rfl,hb,hs,h1,hr⟩:=h
   exact⟨h0,ke,b,o,sz,x,rfl,fun hh=>hb (ho b hh),by rw[hw];exact hs,weaken hX hk hw hφ hO ho h1,by rw[hw];exact hr⟩
 | .mp r g,_,h| .it r g,_,h=>by
   simp only[ak] at h ⊢
   rw[hφ,(hO r).1,(hO r).2];exact h
 | .mlit es,_,h=>by
   simp only[ak] at h ⊢
   obtain⟨h0,h⟩:=h
   refine⟨h0,h.imp id ?_⟩
   rintro⟨a,ents,clock,rfl,hb,hs,h1,h2⟩
   exact⟨a,ents,clock,rfl,fun hh=>hb (ho a hh),by rw[hw];exact hs,by rw[hw];exact h1,ml hX hk hw hφ hO ho h2⟩
theorem ml (hX:X'.toTrEnv=X.toTrEnv) (hk:X'.tok=X.tok) (hw:μ'.w=μ.w) (hφ:μ'.φ=μ.φ) (hO: ∀r,(μ'.O r).gen=(μ.O r).gen∧(μ'.O r).sz=(μ.O r).sz) (ho: ∀b,Own X' μ' b→Own X μ b): ∀ {xs:List V} {vs:List Value},aj X μ xs vs→aj X' μ' xs vs
 | [],[],_=>by simp[aj]
 | [],_::_,h=>by simp[aj] at h
 | _::_,[],h=>by simp[aj] at h
 | x::xs,v::vs,h=>by
   simp only[aj] at h ⊢
   exact⟨weaken hX hk hw hφ hO ho h.1,ml hX hk hw hφ hO ho h.2⟩
end
mutual
theorem mJ (hX:X'.toTrEnv=X.toTrEnv): ∀ {x:V} {v:Value},V.isScalar x=true→ak X μ x v→ak X' μ' x v
 | .bool _,_,_,h| .int ..,_,_,h| .float _,_,_,h| .str _,_,_,h| .nilp,_,_,h| .nilfn,_,_,h| .nili,_,_,h| .nils,_,_,h=>by simpa [ak] using h
 | .any,_,hp,_| .own ..,_,hp,_| .msl ..,_,hp,_| .mptr ..,_,hp,_| .sl ..,_,hp,_| .ptr ..,_,hp,_| .lit ..,_,hp,_| .eptr ..,_,hp,_| .litk ..,_,hp,_| .epk ..,_,hp,_| .mp ..,_,hp,_| .it ..,_,hp,_| .mlit ..,_,hp,_| .fn ..,_,hp,_| .iface ..,_,hp,_=>by simp[V.isScalar] at hp
 | .agg cs,_,hp,h=>by
   simp only[ak] at h ⊢
   obtain⟨h1,vs,rfl,h2⟩:=h
   exact⟨h1,vs,rfl,fD hX (by simpa [V.isScalar] using hp) h2⟩
 | .tuple cs,_,hp,h=>by
   simp only[ak] at h ⊢
   obtain⟨vs,rfl,h2⟩:=h
   exact⟨vs,rfl,fD hX (by simpa [V.isScalar] using hp) h2⟩
theorem fD (hX:X'.toTrEnv=X.toTrEnv): ∀ {xs:List V} {vs:List Value},V.bA xs=true→aj X μ xs vs→aj X' μ' xs vs
 | [],[],_,_=>by simp[aj]
 | [],_::_,_,h=>by simp[aj] at h
 | _::_,[],_,h=>by simp[aj] at h
 | x::xs,v::vs,hp,h=>by
   simp only[aj] at h ⊢
   simp only[V.bA,Bool.and_eq_true] at hp
   exact⟨mJ hX hp.1 h.1,fD hX hp.2 h.2⟩
end
end
structure B7 (Y:Ctx) (μf μ1:Mu) (r j:Nat) (row:Row) (o:Obj):Prop where
 es: ∃es,o.es=some es∧V.an es=true∧0 <o.sz∧es.length≤row.cap∧es.all (aS · o.sz)=true∧
  (row.cap=0∨ ∃c T vs,μ1.w.heap[row.dc]? =some (.cells c T (0,0))∧row.base+row.cap*o.sz≤c.size∧aj Y μ1 es vs∧di μ1.w row.dc row.base o.sz vs)
 live: (μ1.O j).es.isSome=true∧(μ1.O j).fz=false
 dc:row.cap≠0→(μ1.φ j).cap≠0∧row.dc=(μ1.φ j).dc
 gen: (μf.O r).gen<o.gen∨(o.gen=(μf.O r).gen∧row=μf.φ r∧o.sz=(μf.O r).sz)
 sc: (∀es,(μ1.O j).es=some es→V.bA es=true)→ ∀es,o.es=some es→V.bA es=true
structure fv (Y:Ctx) (μf μ1:Mu) (U:Nat→Prop) (A:Nat→Option Nat) (φ:Nat→Row) (O:Nat→Obj):Prop where
 A9: ∀r,A r=none→O r=μf.O r∧φ r=μf.φ r
 yA: ∀r j,A r=some j→B7 Y μf μ1 r j (φ r) (O r)∧U j
 inj: ∀r1 r2 j,A r1=some j→A r2=some j→r1=r2
def dN (φ:Nat→Row) (O:Nat→Obj) (φ':Nat→Row) (O':Nat→Obj):Prop:=
 ∀r,(O r).gen≤(O' r).gen∧((O' r).gen=(O r).gen→φ' r=φ r∧(O' r).sz=(O r).sz)
theorem dN.refl (φ:Nat→Row) (O:Nat→Obj):dN φ O φ O:=fun _=> ⟨Nat.le_refl _,fun _=> ⟨rfl,rfl⟩⟩
theorem dN.trans {φ φ' φ'':Nat→Row} {O O' O'':Nat→Obj} (h:dN φ O φ' O') (k:dN φ' O' φ'' O''):dN φ O φ'' O'':=fun r=>by
 obtain⟨h1,h2⟩:=h r
 obtain⟨k1,k2⟩:=k r
 refine⟨Nat.le_trans h1 k1,fun e=> ?_⟩
 obtain⟨a1,a2⟩:=h2 (by omega)
 obtain⟨b1,b2⟩:=k2 (by omega)
 exact⟨b1.trans a1,b2.trans a2⟩
def mK (μ1:Mu) (φ:Nat→Row) (O:Nat→Obj) (i r g:Nat):Prop:=g≤(O r).gen∧((O r).gen=g→φ r=μ1.φ i∧(O r).sz=(μ1.O i).sz)
theorem mK.mono {μ1:Mu} {φ φ':Nat→Row} {O O':Nat→Obj} {i r g:Nat} (h:mK μ1 φ O i r g) (m:dN φ O φ' O'):mK μ1 φ' O' i r g:=by
 obtain⟨m1,m2⟩:=m r
 refine⟨Nat.le_trans h.1 m1,fun e=> ?_⟩
 have:=h.1
 obtain⟨a1,a2⟩:=m2 (by omega)
 obtain⟨b1,b2⟩:=h.2 (by omega)
 exact⟨a1.trans b1,a2.trans b2⟩
theorem fv.take {Y:Ctx} {μf μ1:Mu} {U U':Nat→Prop} {A:Nat→Option Nat} {φ:Nat→Row} {O:Nat→Obj} (h:fv Y μf μ1 U A φ O) {r j:Nat} {row:Row} {o:Obj} (hj: ¬U j) (hU: ∀i,U i→U' i) (hUj:U' j)
  (ht:B7 Y μf μ1 r j row o):fv Y μf μ1 U' (dn A r (some j)) (dn φ r row) (dn O r o) where
 A9:=fun r' e=>by
  by_cases e':r'=r
  · subst e';simp[aB] at e
  · rw[a8 _ _ e'] at e ⊢;rw[a8 _ _ e'];exact h.A9 r' e
 yA:=fun r' j' e=>by
  by_cases e':r'=r
  · subst e';simp only[aB] at e ⊢;injection e with e;subst e;exact⟨ht,hUj⟩
  · rw[a8 _ _ e'] at e ⊢;rw[a8 _ _ e']
    obtain⟨k1,k2⟩:=h.yA r' j' e
    exact⟨k1,hU _ k2⟩
 inj:=fun r1 r2 j' e1 e2=>by
  by_cases q1:r1=r<;>by_cases q2:r2=r
  · rw[q1,q2]
  · subst q1
    simp only[aB] at e1;injection e1 with e1;subst e1
    rw[a8 _ _ q2] at e2
    exact absurd (h.yA r2 _ e2).2 hj
  · subst q2
    simp only[aB] at e2;injection e2 with e2;subst e2
    rw[a8 _ _ q1] at e1
    exact absurd (h.yA r1 _ e1).2 hj
  · rw[a8 _ _ q1] at e1
    rw[a8 _ _ q2] at e2
    exact h.inj r1 r2 j' e1 e2
theorem dN.dn {φ:Nat→Row} {O:Nat→Obj} {r:Nat} {row:Row} {o:Obj} (h: (O r).gen<o.gen∨(o.gen=(O r).gen∧row=φ r∧o.sz=(O r).sz)):dN φ O (dn φ r row) (dn O r o):=fun r'=>by
 by_cases e:r'=r
 · subst e
   simp only[aB]
   rcases h with h| ⟨h1,h2,h3⟩
   · exact⟨by omega,fun e=>by omega⟩
   · exact⟨by omega,fun _=> ⟨h2,h3⟩⟩
 · simp[a8 _ _ e]
end Go.AM
namespace Go.AM
open Go Go.RowKit
section
variable {X Y:Ctx} {μ μf μ1:Mu} {r0:Nat} {C:bj} {T:Nat→V}
theorem pJ (h1:bu Y μ1) {r i:Nat} {es:List V} {o:Obj} (h0:0 < (μ1.O i).sz) (bR: (μ1.O i).es=some es) (gX: (μ1.O i).fz=false) (hp:V.an es=true) (ho:o.es=some es) (cH:o.sz=(μ1.O i).sz)
  (hg: (μf.O r).gen<o.gen∨(o.gen=(μf.O r).gen∧μ1.φ i=μf.φ r∧o.sz=(μf.O r).sz)):B7 Y μf μ1 r i (μ1.φ i) o:=by
 obtain⟨q1,q2,q3,q4⟩:=h1.row i es bR h0
 refine⟨⟨es,ho,hp,by rw[cH];exact q1,q2,by rw[cH];exact q3,?_⟩,⟨by simp[bR],gX⟩,fun hc=> ⟨hc,rfl⟩,hg,fun hs es' he=> ?_⟩
 · rw[cH];exact q4
 · rw[ho] at he;injection he with he;subst he;exact hs _ bR
theorem jw {O:Nat→Obj} {i sz off len:Nat} {ng:List V} {as:List V} {outs:List (Nat×List V)} (h:bW O i (.msl sz ng off len::as)=some outs):
   ∃es j0,(O i).es=some es∧bW O (i+1) as=some j0∧(O i).fz=false∧(O i).sz=sz∧V.an es=true∧outs=((O i).gen,es)::j0:=by
 simp only[bW] at h
 split at h
 · rename_i es j0 h1 h2
   split at h
   · rename_i hc
     injection h with h
     exact⟨es,j0,h1,h2,hc.1,hc.2.1,hc.2.2,h.symm⟩
   · simp at h
 · simp at h
theorem o8 {O:Nat→Obj} {i sz off len:Nat} {ng:List V} {as:List V} {outs:List (Nat×List V)} (h:bW O i (.mptr sz ng off len::as)=some outs):
   ∃es j0,(O i).es=some es∧bW O (i+1) as=some j0∧(O i).fz=false∧(O i).sz=sz∧V.an es=true∧outs=((O i).gen,es)::j0:=by
 simp only[bW] at h
 split at h
 · rename_i es j0 h1 h2
   split at h
   · rename_i hc
     injection h with h
     exact⟨es,j0,h1,h2,hc.1,hc.2.1,hc.2.2,h.symm⟩
   · simp at h
 · simp at h
theorem nL {O:Nat→Obj} {i:Nat} {a:V} {as:List V} (h:V.aC a=true):bW O i (a::as)=bW O (i+1) as:=by
 cases a<;>simp[V.aC] at h<;>rfl
theorem o9 (h1:bu Y μ1) {w0:List dV} (cP: ∀w ∈ w0,w.fresh=none→(μ1.O w.i).gen=0→μ1.φ w.i=μ.φ w.r) (hφ:μf.φ=μ.φ) (MH: ∀w ∈ w0,μf.O w.r=μ.O w.r) {S:Nat→Prop} (hS: ∀w ∈ w0,S w.i):
   ∀ {i:Nat} {as:List V} {vs:List Value} {rs:List Nat} {ws:List dV},kf X μ r0 i as vs rs ws→ ∀ {outs:List (Nat×List V)} {A:Nat→Option Nat} {φ:Nat→Row} {O:Nat→Obj} {k:List (Nat×Nat×Nat)→Act} {p:V×St},
     bW μ1.O i as=some outs→fv Y μf μ1 (fun j=>j<i∧S j) A φ O→(∀w ∈ ws,w ∈ w0)→(∀w ∈ ws,A w.r=none)→distinct (ws.map (·.r))=true→(cM ws outs k).run C ⟨T,O⟩=some p→
     ∃A' φ' O' gs,(k gs).run C ⟨T,O'⟩=some p∧fv Y μf μ1 (fun j=>j<i+as.length∧S j) A' φ' O'∧dN φ O φ' O'∧(∀w ∈ ws,A' w.r≠none)∧(∀r,A r≠none→A' r≠none)∧
       ∀x ∈ gs,mK μ1 φ' O' x.1 x.2.1 x.2.2:=by
 intro i as vs rs ws hp
 induction hp with
 | nil i=>
   intro outs A φ O k p ho ht _ _ _ ah
   simp[bW] at ho;subst ho
   exact⟨A,φ,O,[],ah,by simpa using ht,dN.refl _ _,by simp,fun _ h=>h,by simp⟩
 | @plain i a v rs rs' as vs ws mh hs h ih=>
   intro outs A φ O k p ho ht hw hA hd ah
   rw[nL mh] at ho
   have v5:fv Y μf μ1 (fun j=>j<i+1∧S j) A φ O:=⟨ht.A9,fun r j e=> ⟨(ht.yA r j e).1,⟨by have:=(ht.yA r j e).2.1;omega,(ht.yA r j e).2.2⟩⟩,ht.inj⟩
   obtain⟨A',φ',O',gs,k1,k2,k3,k4,k5,k6⟩:=ih ho v5 hw hA hd ah
   refine⟨A',φ',O',gs,k1,?_,k3,k4,k5,k6⟩
   have e:i+(a::as).length=i+1+as.length:=by simp;omega
   rw[e];exact k2
 | @sl i r g off len ng v rs as vs ws bR gX cu mh gV hv h ih=>
   intro outs A φ O k p ho ht hw hA hd ah
   obtain⟨es,j0,o1,o2,o3,o4,o5,rfl⟩:=jw ho
   simp only[cM,Act.run] at ah
   have MI:=hA ⟨i,r,none⟩ (by simp)
   simp only at MI
   obtain⟨n1,n2⟩:=ht.A9 r MI
   have hOr:μf.O r=μ.O r:=MH ⟨i,r,none⟩ (hw _ (by simp))
   have vp: (μf.O r).gen< (O r).gen+(μ1.O i).gen∨((O r).gen+(μ1.O i).gen=(μf.O r).gen∧μ1.φ i=μf.φ r∧(O r).sz=(μf.O r).sz):=by
     rw[n1]
     by_cases hz: (μ1.O i).gen=0
     · right;refine⟨by omega,?_,rfl⟩
       rw[hφ];exact cP ⟨i,r,none⟩ (hw _ (by simp)) rfl hz
     · left;omega
   have KM:B7 Y μf μ1 r i (μ1.φ i) {O r with gen:=(O r).gen+(μ1.O i).gen,es:=some es}:=
     pJ h1 (by rw[o4];simp only[ak] at hv;obtain⟨_,_,_,_,_,hh⟩:=hv;exact(hh cu).1) o1 o3 o5 rfl (by simp only[n1,hOr];exact o4.symm) vp
   have v5:=ht.take (U':=fun j=>j<i+1∧S j) (by simp) (fun j hj=> ⟨by omega,hj.2⟩) ⟨by simp,hS ⟨i,r,none⟩ (hw _ (by simp))⟩ KM
   have hm:dN φ O (dn φ r (μ1.φ i)) (dn O r {O r with gen:=(O r).gen+(μ1.O i).gen,es:=some es}):=by
     refine dN.dn ?_
     rw[n2]
     have:=vp
     rw[←n1] at this
     exact this.imp id fun hh=> ⟨hh.1,hh.2.1,hh.2.2⟩
   simp only[List.map_cons,distinct,Bool.and_eq_true,Bool.not_eq_true',List.contains_eq_mem,decide_eq_false_iff_not] at hd
   obtain⟨A',φ',O',gs,k1,k2,k3,k4,k5,k6⟩:=ih o2 v5 (fun w js=>hw w (by simp[js])) (fun w js=>by
     have:w.r≠r:=fun e=>hd.1 (List.mem_map.2 ⟨w,js,e⟩)
     rw[a8 _ _ this];exact hA w (by simp[js])) hd.2 ah
   refine⟨A',φ',O',_,k1,?_,hm.trans k3,fun w js=> ?_,fun r' rY=>k5 r' ?_,fun x hx=> ?_⟩
   · have e:i+(V.msl (μ.O r).sz ng off len::as).length=i+1+as.length:=by simp;omega
     rw[e];exact k2
   · rcases List.mem_cons.1 js with rfl| js
     · exact k5 r (by simp[aB])
     · exact k4 w js
   · by_cases e:r'=r
     · subst e;simp[aB]
     · rw[a8 _ _ e];exact rY
   · rcases List.mem_cons.1 hx with rfl| hx
     · refine mK.mono ⟨?_,fun _=> ?_⟩ k3
       · simp[aB]
       · simp only[aB];exact⟨trivial,by rw[n1,hOr];exact o4.symm⟩
     · exact k6 x hx
 | @ptr i r g idx off ng v rs as vs ws bR gX cu mh hv h ih=>
   intro outs A φ O k p ho ht hw hA hd ah
   obtain⟨es,j0,o1,o2,o3,o4,o5,rfl⟩:=o8 ho
   simp only[cM,Act.run] at ah
   have MI:=hA ⟨i,r,none⟩ (by simp)
   simp only at MI
   obtain⟨n1,n2⟩:=ht.A9 r MI
   have hOr:μf.O r=μ.O r:=MH ⟨i,r,none⟩ (hw _ (by simp))
   have vp: (μf.O r).gen< (O r).gen+(μ1.O i).gen∨((O r).gen+(μ1.O i).gen=(μf.O r).gen∧μ1.φ i=μf.φ r∧(O r).sz=(μf.O r).sz):=by
     rw[n1]
     by_cases hz: (μ1.O i).gen=0
     · right;refine⟨by omega,?_,rfl⟩
       rw[hφ];exact cP ⟨i,r,none⟩ (hw _ (by simp)) rfl hz
     · left;omega
   have KM:B7 Y μf μ1 r i (μ1.φ i) {O r with gen:=(O r).gen+(μ1.O i).gen,es:=some es}:=
     pJ h1 (by rw[o4];simp only[ak] at hv;obtain⟨_,_,_,hh⟩:=hv;exact(hh cu).1) o1 o3 o5 rfl (by simp only[n1,hOr];exact o4.symm) vp
   have v5:=ht.take (U':=fun j=>j<i+1∧S j) (by simp) (fun j hj=> ⟨by omega,hj.2⟩) ⟨by simp,hS ⟨i,r,none⟩ (hw _ (by simp))⟩ KM
   have hm:dN φ O (dn φ r (μ1.φ i)) (dn O r {O r with gen:=(O r).gen+(μ1.O i).gen,es:=some es}):=by
     refine dN.dn ?_
     rw[n2]
     have:=vp
     rw[←n1] at this
     exact this.imp id fun hh=> ⟨hh.1,hh.2.1,hh.2.2⟩
   simp only[List.map_cons,distinct,Bool.and_eq_true,Bool.not_eq_true',List.contains_eq_mem,decide_eq_false_iff_not] at hd
   obtain⟨A',φ',O',gs,k1,k2,k3,k4,k5,k6⟩:=ih o2 v5 (fun w js=>hw w (by simp[js])) (fun w js=>by
     have:w.r≠r:=fun e=>hd.1 (List.mem_map.2 ⟨w,js,e⟩)
     rw[a8 _ _ this];exact hA w (by simp[js])) hd.2 ah
   refine⟨A',φ',O',_,k1,?_,hm.trans k3,fun w js=> ?_,fun r' rY=>k5 r' ?_,fun x hx=> ?_⟩
   · have e:i+(V.mptr (μ.O r).sz ng idx off::as).length=i+1+as.length:=by simp;omega
     rw[e];exact k2
   · rcases List.mem_cons.1 js with rfl| js
     · exact k5 r (by simp[aB])
     · exact k4 w js
   · by_cases e:r'=r
     · subst e;simp[aB]
     · rw[a8 _ _ e];exact rY
   · rcases List.mem_cons.1 hx with rfl| hx
     · refine mK.mono ⟨?_,fun _=> ?_⟩ k3
       · simp[aB]
       · simp only[aB];exact⟨trivial,by rw[n1,hOr];exact o4.symm⟩
     · exact k6 x hx
 | @fresh i sz v rs as vs ws cH hv h ih=>
   intro outs A φ O k p ho ht hw hA hd ah
   obtain⟨es,j0,o1,o2,o3,o4,o5,rfl⟩:=jw ho
   simp only[cM,Act.run] at ah
   have MI:=hA ⟨i,r0+i,some sz⟩ (by simp)
   simp only at MI
   obtain⟨n1,n2⟩:=ht.A9 (r0+i) MI
   have KM:B7 Y μf μ1 (r0+i) i (μ1.φ i) {gen:=(O (r0+i)).gen+1,sz,arr:=true,fz:=false,es:=some es}:=
     pJ h1 (by rw[o4];exact cH) o1 o3 o5 rfl o4.symm (.inl (by simp only[n1];omega))
   have v5:=ht.take (U':=fun j=>j<i+1∧S j) (by simp) (fun j hj=> ⟨by omega,hj.2⟩) ⟨by simp,hS ⟨i,r0+i,some sz⟩ (hw _ (by simp))⟩ KM
   have hm:dN φ O (dn φ (r0+i) (μ1.φ i)) (dn O (r0+i) {gen:=(O (r0+i)).gen+1,sz,arr:=true,fz:=false,es:=some es}):=
     dN.dn (.inl (by simp))
   simp only[List.map_cons,distinct,Bool.and_eq_true,Bool.not_eq_true',List.contains_eq_mem,decide_eq_false_iff_not] at hd
   obtain⟨A',φ',O',gs,k1,k2,k3,k4,k5,k6⟩:=ih o2 v5 (fun w js=>hw w (by simp[js])) (fun w js=>by
     have:w.r≠r0+i:=fun e=>hd.1 (List.mem_map.2 ⟨w,js,e⟩)
     rw[a8 _ _ this];exact hA w (by simp[js])) hd.2 ah
   refine⟨A',φ',O',_,k1,?_,hm.trans k3,fun w js=> ?_,fun r' rY=>k5 r' ?_,fun x hx=> ?_⟩
   · have e:i+(V.msl sz [] 0 0::as).length=i+1+as.length:=by simp;omega
     rw[e];exact k2
   · rcases List.mem_cons.1 js with rfl| js
     · exact k5 (r0+i) (by simp[aB])
     · exact k4 w js
   · by_cases e:r'=r0+i
     · subst e;simp[aB]
     · rw[a8 _ _ e];exact rY
   · rcases List.mem_cons.1 hx with rfl| hx
     · refine mK.mono ⟨?_,fun _=> ?_⟩ k3
       · simp[aB]
       · simp only[aB];exact⟨trivial,o4.symm⟩
     · exact k6 x hx
theorem HM {O:Nat→Obj} {i:Nat} {as:List V} {vs:List Value} {rs:List Nat} {ws:List dV} (hp:kf X μ r0 i as vs rs ws): ∀ {outs:List (Nat×List V)},bW O i as=some outs→
   ∀w ∈ ws,∃g es,(O w.i).es=some es∧(g,es) ∈ outs:=by
 induction hp with
 | nil i=>intro outs _ w hw;simp at hw
 | plain mh hs h ih=>intro outs ho;rw[nL mh] at ho;exact ih ho
 | @sl i r g off len ng v rs as vs ws bR gX cu mh gV hv h ih=>
   intro outs ho w hw
   obtain⟨es,j0,o1,o2,o3,o4,o5,rfl⟩:=jw ho
   rcases List.mem_cons.1 hw with rfl| hw
   · exact⟨_,es,o1,List.mem_cons_self⟩
   · obtain⟨g,es',k1,k2⟩:=ih o2 w hw;exact⟨g,es',k1,by simp[k2]⟩
 | @ptr i r g idx off ng v rs as vs ws bR gX cu mh hv h ih=>
   intro outs ho w hw
   obtain⟨es,j0,o1,o2,o3,o4,o5,rfl⟩:=o8 ho
   rcases List.mem_cons.1 hw with rfl| hw
   · exact⟨_,es,o1,List.mem_cons_self⟩
   · obtain⟨g,es',k1,k2⟩:=ih o2 w hw;exact⟨g,es',k1,by simp[k2]⟩
 | @fresh i sz v rs as vs ws cH hv h ih=>
   intro outs ho w hw
   obtain⟨es,j0,o1,o2,o3,o4,o5,rfl⟩:=jw ho
   rcases List.mem_cons.1 hw with rfl| hw
   · exact⟨_,es,o1,List.mem_cons_self⟩
   · obtain⟨g,es',k1,k2⟩:=ih o2 w hw;exact⟨g,es',k1,by simp[k2]⟩
end
end Go.AM
namespace Go.AM
open Go Go.RowKit
def after (Y:Ctx) (μ1:Mu) (n:Nat) (bK:Bool) (b:Nat):Prop:=
 Y.Mk b∨ ∃j,(bK=true∨j<n)∧(μ1.O j).es.isSome=true∧(μ1.O j).fz=false∧(μ1.φ j).cap≠0∧(μ1.φ j).dc=b
def quiet (μ1:Mu) (φ:Nat→Row) (O:Nat→Obj):Mu:=⟨μ1.w,φ,fun r=> {O r with fz:=true}⟩
theorem si {μ1:Mu} {φ:Nat→Row} {O:Nat→Obj} {b:Nat}: ¬ (quiet μ1 φ O).own b:=by
 rintro⟨r,_,h,_⟩;simp[quiet] at h
theorem Ai {μ1:Mu} {φ φ':Nat→Row} {O O':Nat→Obj} (h:dN φ O φ' O'):Le (quiet μ1 φ O) (quiet μ1 φ' O'):=
 ⟨Nat.le_refl _,fun _ _ _=> ⟨rfl,si⟩,fun r=> (h r).1,fun r e=> (h r).2 e,rfl,rfl,rfl,fun _ _=>rfl⟩
theorem jg: ∀ {as bs:List Nat},distinct (as++bs)=true→distinct as=true∧distinct bs=true∧ ∀b ∈ bs,b ∉ as
 | [],bs,h=> ⟨rfl,h,fun _ _=>by simp⟩
 | a::as,bs,h=>by
   simp only[List.cons_append,distinct,Bool.and_eq_true,Bool.not_eq_true',List.contains_eq_mem,decide_eq_false_iff_not,List.mem_append,not_or] at h ⊢
   obtain⟨h1,h2⟩:=h
   obtain⟨k1,k2,k3⟩:=jg h2
   refine⟨⟨h1.1,k1⟩,k2,fun b hb=> ?_⟩
   simp only[List.mem_cons,not_or]
   exact⟨fun e=>h1.2 (e ▸ hb),k3 b hb⟩
theorem tj {i r g:Nat}: ∀ {gs:List (Nat×Nat×Nat)},fy i gs=some (r,g)→(i,r,g) ∈ gs
 | [],h=>by simp[fy] at h
 | (j,r',g')::gs,h=>by
   simp only[fy] at h
   split at h
   · rename_i e
     subst e
     simp only[Option.some.injEq,Prod.mk.injEq] at h
     simp[h.1,h.2]
   · exact List.mem_cons_of_mem _ (tj h)
theorem nM: ∀ {es:List V} (n:Nat),V.bA es=true→V.bA (es.take n)=true
 | _,0,_=>by simp[V.bA]
 | [],_+1,_=>by simp[V.bA]
 | x::xs,n+1,h=>by
   simp only[V.bA,Bool.and_eq_true] at h
   simp only[List.take_succ_cons,V.bA,Bool.and_eq_true]
   exact⟨h.1,nM n h.2⟩
theorem nN: ∀ {es:List V} (n:Nat),V.bA es=true→V.bA (es.drop n)=true
 | _,0,h=>by simpa using h
 | [],_+1,_=>by simp[V.bA]
 | x::xs,n+1,h=>by
   simp only[V.bA,Bool.and_eq_true] at h
   simpa using nN n h.2
theorem sj {es:List V} {off len:Nat} (h:V.bA es=true):V.bA (aN es off len)=true:=nM _ (nN _ h)
section
variable {Y:Ctx} {μf μ1:Mu} {n:Nat} {bK:Bool} {C:bj} {T:Nat→V}
theorem jB {φ:Nat→Row} {O:Nat→Obj} {b:Nat} (h:Own ⟨Y.toTrEnv,after Y μ1 n bK,Y.tok⟩ (quiet μ1 φ O) b):Own Y μ1 b:=by
 rcases h with h| h| ⟨j,_,h1,h2,h3,h4⟩
 · exact absurd h si
 · exact .inr h
 · exact .inl ⟨j,h1,h2,h3,h4⟩
theorem iw (h1:bu Y μ1) {U:Nat→Prop} {A:Nat→Option Nat} {φ:Nat→Row} {O:Nat→Obj} {gs:List (Nat×Nat×Nat)} {c:V} {rs:List Nat} {val:Value} {r:Nat} {k:V→Act} {p:V×St}
   (ht:fv Y μf μ1 U A φ O) (hlo: ∀r,(μf.O r).gen≤(O r).gen) (zQ: ∀x ∈ gs,mK μ1 φ O x.1 x.2.1 x.2.2) (he:RQ Y μ1 n c rs val) (hU: ∀j ∈ rs,n≤j→ ¬U j) (ah: (bX bK r gs c k).run C ⟨T,O⟩=some p):
   ∃A' φ' O' c',(k c').run C ⟨T,O'⟩=some p∧fv Y μf μ1 (fun j=>U j∨(bK=true∧j ∈ rs)) A' φ' O'∧dN φ O φ' O'∧(∀r,A r≠none→A' r≠none)∧
     ak ⟨Y.toTrEnv,after Y μ1 n bK,Y.tok⟩ (quiet μ1 φ' O') c' val∧(c.iL=true→c'.aP=true):=by
 have KM:fv Y μf μ1 (fun j=>U j∨(bK=true∧j ∈ rs)) A φ O:=⟨ht.A9,fun r j e=> ⟨(ht.yA r j e).1,.inl (ht.yA r j e).2⟩,ht.inj⟩
 cases he with
 | pure hp hv=>
   refine⟨A,φ,O,c,?_,KM,dN.refl _ _,fun _ h=>h,dC (X:=Y) (μ:=μ1) (μ':=quiet μ1 φ O) rfl (fun b=>jB) hp hv,fun hc=> ?_⟩
   · cases c<;>simp[V.aC] at hp<;>simpa [bX,V.aC,hp] using ah
   · cases c<;>simp_all[V.aC,V.iL]
 | @sl j g off len es val hr bR hg hl hv=>
   simp only[bX] at ah
   split at ah
   · rename_i r' g' I2
     obtain⟨g1,g2⟩:=zQ _ (tj I2)
     refine⟨A,φ,O,_,ah,KM,dN.refl _ _,fun _ h=>h,?_,fun _=>rfl⟩
     simp only[ak] at hv ⊢
     obtain⟨a,cap,rfl,q1,q2,q3⟩:=hv
     refine⟨a,cap,rfl,q1,g1,fun e=> ?_⟩
     obtain⟨e1,e2⟩:=g2 e
     simp only[quiet] at e1 e2 ⊢
     rw[e1,e2];exact q3 hg
   · exact absurd ah au
 | @own j g off len es val hr bR gX hg hl hp hv=>
   simp only[bX] at ah
   have a0:0 < (μ1.O j).sz:=by simp only[ak] at hv;obtain⟨_,_,_,_,_,hh⟩:=hv;exact(hh hg).1
   obtain⟨q1,q2,q3,q4⟩:=h1.row j es bR a0
   have oP: (aN es off len).length=len:=by simp[aN];omega
   have RS: (aN es off len).all (aS · (μ1.O j).sz)=true:=by
     simp only[List.all_eq_true] at q3 ⊢
     exact fun x hx=>q3 x (List.mem_of_mem_drop (List.mem_of_mem_take hx))
   have ll: (aN es off len).all V.c6=true:=by
     simp only[List.all_eq_true] at RS ⊢
     exact fun x hx=> (cf (RS x hx)).1
   simp only[ak] at hv
   obtain⟨a,cap,rfl,s1,s2,s3⟩:=hv
   obtain⟨-,a1,a2⟩:=s3 hg
   cases hth:bK with
   | true=>
     subst hth
     rw[if_pos rfl] at ah
     simp only[Act.run] at ah
     have cP: (⟨(μ1.φ j).dc,(μ1.φ j).base+off*(μ1.O j).sz,cap⟩:Row).cap=cap:=rfl
     have XT:B7 Y μf μ1 r j ⟨(μ1.φ j).dc,(μ1.φ j).base+off*(μ1.O j).sz,cap⟩ {gen:=(O r).gen+1,sz:=(μ1.O j).sz,arr:=true,fz:=false,es:=some (aN es off len)}:=by
       refine⟨⟨_,rfl,hp,q1,by simp only[oP];exact s1,RS,?_⟩,⟨by simp[bR],gX⟩,fun hc=> ⟨?_,rfl⟩,.inl ?_,fun hs es' he=> ?_⟩
       · rcases q4 with q4| ⟨cc,TT,vs,p1,p2,p3,p4⟩
         · left;simp only;omega
         · right
           refine⟨cc,TT,(vs.drop off).take len,p1,?_,aj.take _ (aj.drop _ p3),(p4.drop off).take len⟩
           simp only
           rw[←a1,Nat.add_mul] at p2
           omega
       · simp only at hc;omega
       · have:=hlo r;simp only;omega
       · simp only at he;injection he with he;subst he
         exact sj (hs es bR)
     have hm:dN φ O (dn φ r ⟨(μ1.φ j).dc,(μ1.φ j).base+off*(μ1.O j).sz,cap⟩) (dn O r {gen:=(O r).gen+1,sz:=(μ1.O j).sz,arr:=true,fz:=false,es:=some (aN es off len)}):=
       dN.dn (.inl (by simp))
     refine⟨_,_,_,_,ah,ht.take (U':=fun i=>U i∨(True∧i ∈ [j])) (hU j (by simp) hr) (fun i hi=> .inl hi) (by simp) XT |> fun t=>by simpa using t,hm,fun r' rY=> ?_,?_,fun _=>rfl⟩
     · by_cases e:r'=r
       · subst e;simp[aB]
       · rw[a8 _ _ e];exact rY
     · simp only[ak,quiet,aB]
       refine⟨a,cap,by rw[oP],by rw[oP];exact s1,Nat.le_refl _,fun _=> ⟨a0,by omega,a2.imp id fun e=> ?_⟩⟩
       rw[e];simp
   | false=>
     subst hth
     rw[if_neg (by simp)] at ah
     refine⟨A,φ,O,_,ah,KM,dN.refl _ _,fun _ h=>h,?_,fun _=>rfl⟩
     simp only[ak]
     by_cases zM:len=0
     · exact⟨hp,ll,a,cap,[],by rw[oP],by omega,by simp[aN,zM,aj],.inl (by simpa using oP.trans zM)⟩
     · rcases q4 with q4| ⟨cc,TT,vs,p1,p2,p3,p4⟩
       · omega
       · refine⟨hp,ll,a,cap,(vs.drop off).take len,by rw[oP],by omega,bQ (X:=Y) (μ:=μ1) (μ':=quiet μ1 φ O) rfl (fun b=>jB) hp (aj.take _ (aj.drop _ p3)),
           .inr ⟨_,_,a2.resolve_left (by omega),?_,(Array.getElem?_eq_some_iff.1 p1).1,(p4.drop off).take len⟩⟩
         rintro(h| h| ⟨j',k0,k1,k2,k3,k4⟩)
         · exact si h
         · exact h1.sR j (by simp[bR]) (by omega) h
         · have S7:j'<n:=by simpa using k0
           exact h1.inj j' j (by omega) k1 (by simp[bR]) k3 (by omega) k4
theorem fv.lo {U:Nat→Prop} {A:Nat→Option Nat} {φ:Nat→Row} {O:Nat→Obj} (h:fv Y μf μ1 U A φ O) (r:Nat): (μf.O r).gen≤(O r).gen:=by
 cases e:A r with
 | none=>rw[(h.A9 r e).1];exact Nat.le_refl _
 | some j=>
   rcases(h.yA r j e).1.gen with h| ⟨h,_⟩ <;>omega
def yB (Y:Ctx) (μf μ1:Mu) (C:bj) (T:Nat→V) (U:Nat→Prop) (A:Nat→Option Nat) (φ:Nat→Row) (O:Nat→Obj) {α:Type} (k:α→Act) (p:V×St) (G: (Nat→Row)→(Nat→Obj)→α→Prop):Prop:=
 ∃A' φ' O' c',(k c').run C ⟨T,O'⟩=some p∧fv Y μf μ1 U A' φ' O'∧dN φ O φ' O'∧(∀r,A r≠none→A' r≠none)∧G φ' O' c'
theorem fv.more {U U':Nat→Prop} {A:Nat→Option Nat} {φ:Nat→Row} {O:Nat→Obj} (h:fv Y μf μ1 U A φ O) (hU: ∀j,U j→U' j):fv Y μf μ1 U' A φ O:=
 ⟨h.A9,fun r j e=> ⟨(h.yA r j e).1,hU _ (h.yA r j e).2⟩,h.inj⟩
theorem q8 (h1:bu Y μ1): ∀ {U:Nat→Prop} {A:Nat→Option Nat} {φ:Nat→Row} {O:Nat→Obj} {gs:List (Nat×Nat×Nat)} {cs:List V} {rs:List Nat} {vals:List Value} {r:Nat} {k:List V→Act} {p:V×St},
   fv Y μf μ1 U A φ O→(∀x ∈ gs,mK μ1 φ O x.1 x.2.1 x.2.2)→wo Y μ1 n cs rs vals→(∀j ∈ rs,n≤j→ ¬U j)→distinct rs=true→(cA bK r gs cs k).run C ⟨T,O⟩=some p→
   yB Y μf μ1 C T (fun j=>U j∨(bK=true∧j ∈ rs)) A φ O k p fun φ' O' cN=>aj ⟨Y.toTrEnv,after Y μ1 n bK,Y.tok⟩ (quiet μ1 φ' O') cN vals∧(cs.all V.iL=true→cN.all V.aP=true):=by
 intro U A φ O gs cs rs vals r k p ht zQ he hU hd ah
 induction he generalizing U A φ O r k with
 | nil=>exact⟨A,φ,O,[],ah,ht.more fun j h=> .inl h,dN.refl _ _,fun _ h=>h,by simp[aj],fun _=>rfl⟩
 | @cons c rs rs' val cs vals h hs ih=>
   obtain⟨d1,d2,d3⟩:=jg hd
   simp only[cA] at ah
   obtain⟨A1,φ1,O1,c1,k1,k2,k3,k4,k5,k6⟩:=iw h1 ht ht.lo zQ h (fun j hj=>hU j (by simp[hj])) ah
   obtain⟨A2,φ2,O2,cs2,m1,m2,m3,m4,m5,m6⟩:=ih k2 (fun x hx=> (zQ x hx).mono k3) (fun j hj hn hu=>by
     rcases hu with hu| ⟨_,hu⟩
     · exact hU j (by simp[hj]) hn hu
     · exact d3 j hj hu) d2 k1
   refine⟨A2,φ2,O2,c1::cs2,m1,m2.more fun j hj=> ?_,k3.trans m3,fun r' h=>m4 r' (k4 r' h),?_,?_⟩
   · rcases hj with(hj| ⟨e,hj⟩) | ⟨e,hj⟩
     · exact .inl hj
     · exact .inr ⟨e,by simp[hj]⟩
     · exact .inr ⟨e,by simp[hj]⟩
   · simp only[aj];exact⟨ak.mono (Ai m3) k5,m5⟩
   · simp only[List.all_cons,Bool.and_eq_true]
     exact fun hc=> ⟨k6 hc.1,m6 hc.2⟩
theorem iy: ∀ {cs:List V},V.an cs=true→cs.all V.iL=true→cs.all V.aP=true
 | [],_,_=>rfl
 | a::as,hp,hc=>by
   simp only[V.an,Bool.and_eq_true] at hp
   simp only[List.all_cons,Bool.and_eq_true] at hc ⊢
   refine⟨?_,iy hp.2 hc.2⟩
   have h1:=hp.1
   have h2:=hc.1
   cases a<;>simp_all[V.aC,V.iL]
theorem pb (h1:bu Y μ1) {U:Nat→Prop} {A:Nat→Option Nat} {φ:Nat→Row} {O:Nat→Obj} {gs:List (Nat×Nat×Nat)} {c:V} {rs:List Nat} {val:Value} {r:Nat} {k:V→Act} {p:V×St}
   (ht:fv Y μf μ1 U A φ O) (zQ: ∀x ∈ gs,mK μ1 φ O x.1 x.2.1 x.2.2) (he:E1 Y μ1 n c rs val) (hU: ∀j ∈ rs,n≤j→ ¬U j) (hd:distinct rs=true) (ah: (eE bK r gs c k).run C ⟨T,O⟩=some p):
   yB Y μf μ1 C T (fun j=>U j∨(bK=true∧j ∈ rs)) A φ O k p fun φ' O' c'=>ak ⟨Y.toTrEnv,after Y μ1 n bK,Y.tok⟩ (quiet μ1 φ' O') c' val:=by
 unfold eE at ah
 split at ah
 · rename_i hp
   refine⟨A,φ,O,c,ah,ht.more fun j h=> .inl h,dN.refl _ _,fun _ h=>h,?_⟩
   cases he with
   | cell h=>
     cases h with
     | pure A7 hv=>exact dC (X:=Y) (μ:=μ1) (μ':=quiet μ1 φ O) rfl (fun b=>jB) hp hv
     | sl=>simp[V.aC] at hp
     | own=>simp[V.aC] at hp
   | @agg cs _ vals hc h=>
     have A7:V.an cs=true:=by simpa [V.aC] using hp
     obtain⟨hv,_⟩:=h.bZ A7
     simp only[ak]
     exact⟨iy A7 hc,_,rfl,bQ (X:=Y) (μ:=μ1) (μ':=quiet μ1 φ O) rfl (fun b=>jB) A7 hv⟩
 · cases he with
   | cell h=>
     cases h with
     | pure hp hv=>rename_i hnp;exact absurd hp hnp
     | sl hr bR hg hl hv=>
       obtain⟨A1,φ1,O1,c1,k1,k2,k3,k4,k5,k6⟩:=iw h1 ht ht.lo zQ (.sl hr bR hg hl hv) hU ah
       exact⟨A1,φ1,O1,c1,k1,k2,k3,k4,k5⟩
     | own hr bR gX hg hl hp hv=>
       obtain⟨A1,φ1,O1,c1,k1,k2,k3,k4,k5,k6⟩:=iw h1 ht ht.lo zQ (.own hr bR gX hg hl hp hv) hU ah
       exact⟨A1,φ1,O1,c1,k1,k2,k3,k4,k5⟩
   | agg hc h=>
     obtain⟨A1,φ1,O1,c1,k1,k2,k3,k4,k5,k6⟩:=q8 h1 ht zQ h hU hd ah
     refine⟨A1,φ1,O1,_,k1,k2,k3,k4,?_⟩
     simp only[ak]
     exact⟨k6 hc,_,rfl,k5⟩
theorem vt (h1:bu Y μ1): ∀ {U:Nat→Prop} {A:Nat→Option Nat} {φ:Nat→Row} {O:Nat→Obj} {gs:List (Nat×Nat×Nat)} {cs:List V} {rs:List Nat} {vals:List Value} {r:Nat} {k:List V→Act} {p:V×St},
   fv Y μf μ1 U A φ O→(∀x ∈ gs,mK μ1 φ O x.1 x.2.1 x.2.2)→q6 Y μ1 n cs rs vals→(∀j ∈ rs,n≤j→ ¬U j)→distinct rs=true→(dU bK r gs cs k).run C ⟨T,O⟩=some p→
   yB Y μf μ1 C T (fun j=>U j∨(bK=true∧j ∈ rs)) A φ O k p fun φ' O' cN=>aj ⟨Y.toTrEnv,after Y μ1 n bK,Y.tok⟩ (quiet μ1 φ' O') cN vals:=by
 intro U A φ O gs cs rs vals r k p ht zQ he hU hd ah
 induction he generalizing U A φ O r k with
 | nil=>exact⟨A,φ,O,[],ah,ht.more fun j h=> .inl h,dN.refl _ _,fun _ h=>h,by simp[aj]⟩
 | @cons c rs rs' val cs vals h hs ih=>
   obtain⟨d1,d2,d3⟩:=jg hd
   simp only[dU] at ah
   obtain⟨A1,φ1,O1,c1,k1,k2,k3,k4,k5⟩:=pb h1 ht zQ h (fun j hj=>hU j (by simp[hj])) d1 ah
   obtain⟨A2,φ2,O2,cs2,m1,m2,m3,m4,m5⟩:=ih k2 (fun x hx=> (zQ x hx).mono k3) (fun j hj hn hu=>by
     rcases hu with hu| ⟨_,hu⟩
     · exact hU j (by simp[hj]) hn hu
     · exact d3 j hj hu) d2 k1
   refine⟨A2,φ2,O2,c1::cs2,m1,m2.more fun j hj=> ?_,k3.trans m3,fun r' h=>m4 r' (k4 r' h),?_⟩
   · rcases hj with(hj| ⟨e,hj⟩) | ⟨e,hj⟩
     · exact .inl hj
     · exact .inr ⟨e,by simp[hj]⟩
     · exact .inr ⟨e,by simp[hj]⟩
   · simp only[aj];exact⟨ak.mono (Ai m3) k5,m5⟩
theorem q6.bZ {cs:List V} {rs:List Nat} {vals:List Value} (h:q6 Y μ1 n cs rs vals) (hp:V.an cs=true):aj Y μ1 cs vals∧rs=[]:=by
 induction h with
 | nil=>simp[aj]
 | cons h hs ih=>
   simp only[V.an,Bool.and_eq_true] at hp
   obtain⟨i1,i2⟩:=ih hp.2
   cases h with
   | cell h=>
     cases h with
     | pure A7 hv=>simp only[aj];exact⟨⟨hv,i1⟩,by simpa using i2⟩
     | sl=>simp[V.aC] at hp
     | own=>simp[V.aC] at hp
   | @agg cs _ vals hc h=>
     have A7:V.an cs=true:=by simpa [V.aC] using hp.1
     obtain⟨hv,e⟩:=h.bZ A7
     subst e
     simp only[aj,ak]
     exact⟨⟨⟨iy A7 hc,_,rfl,hv⟩,i1⟩,by simpa using i2⟩
end
end Go.AM
namespace Go.AM
open Go Go.RowKit
mutual
theorem j3: ∀ {x:V},V.isScalar x=true→V.aC x=true
 | .bool _,_| .int ..,_| .float _,_| .str _,_| .nilp,_| .nilfn,_| .nili,_| .nils,_=>rfl
 | .any,hp| .own ..,hp| .msl ..,hp| .mptr ..,hp| .sl ..,hp| .ptr ..,hp| .lit ..,hp| .eptr ..,hp| .litk ..,hp| .epk ..,hp| .mp ..,hp| .it ..,hp| .mlit ..,hp| .fn ..,hp| .iface ..,hp=>by simp[V.isScalar] at hp
 | .agg cs,hp=>by simpa [V.aC] using fw (by simpa [V.isScalar] using hp)
 | .tuple cs,hp=>by simpa [V.aC] using fw (by simpa [V.isScalar] using hp)
theorem fw: ∀ {xs:List V},V.bA xs=true→V.an xs=true
 | [],_=>rfl
 | x::xs,hp=>by
   simp only[V.bA,Bool.and_eq_true] at hp
   simp only[V.an,Bool.and_eq_true]
   exact⟨j3 hp.1,fw hp.2⟩
end
section
variable {Y:Ctx} {μf μ1:Mu} {n:Nat} {bK:Bool} {C:bj} {T:Nat→V}
def KN (Y:Ctx) (μ:Mu) (n:Nat) (v:V) (rs:List Nat) (val:Value):Prop:=
 E1 Y μ n v rs val∨ ∃vs us,v= .tuple vs∧val= .tuple us∧q6 Y μ n vs rs us.toList
theorem dt.XU (h1:bu Y μ1) {T':Nat→V} {v0 v:V} {rs:List Nat} {val:Value} (hv:ak Y μ1 v0 val) (h:dt n ⟨T',μ1.O⟩ v0 v rs):KN Y μ1 n v rs val:=by
 cases h with
 | one h=>exact .inl (o6 h1 hv h)
 | many h=>
   simp only[ak] at hv
   obtain⟨us,rfl,hv⟩:=hv
   exact .inr ⟨_,us,rfl,rfl,nK h1 hv h⟩
theorem KN.pure {v:V} {rs:List Nat} {val:Value} (h:KN Y μ1 n v rs val) (hp:V.aC v=true):ak Y μ1 v val:=by
 rcases h with h| ⟨vs,us,rfl,rfl,h⟩
 · have hs:q6 Y μ1 n [v] (rs++[]) [val]:= .cons h .nil
   have:=(hs.bZ (by simp[V.an,hp])).1
   simp only[aj] at this
   exact this.1
 · simp only[ak]
   exact⟨us,rfl,(h.bZ (by simpa [V.aC] using hp)).1⟩
theorem tL (h1:bu Y μ1) {U:Nat→Prop} {A:Nat→Option Nat} {φ:Nat→Row} {O:Nat→Obj} {gs:List (Nat×Nat×Nat)} {c v:V} {rs:List Nat} {val:Value} {r:Nat} {σ':St}
   (ht:fv Y μf μ1 U A φ O) (zQ: ∀x ∈ gs,mK μ1 φ O x.1 x.2.1 x.2.2) (he:KN Y μ1 n c rs val) (hU: ∀j ∈ rs,n≤j→ ¬U j) (hd:distinct rs=true) (ah: (cn bK r gs c .done).run C ⟨T,O⟩=some (v,σ')):
   σ'.T=T∧((V.aC c=true∧v=c∧σ'.O=O∧ak Y μ1 c val)∨ ∃A' φ',fv Y μf μ1 (fun j=>U j∨(bK=true∧j ∈ rs)) A' φ' σ'.O∧dN φ O φ' σ'.O∧(∀r,A r≠none→A' r≠none)∧ak ⟨Y.toTrEnv,after Y μ1 n bK,Y.tok⟩ (quiet μ1 φ' σ'.O) v val):=by
 unfold cn at ah
 split at ah
 · rename_i hp
   obtain⟨rfl,rfl⟩:=aY ah
   exact⟨rfl,.inl ⟨hp,rfl,rfl,he.pure hp⟩⟩
 · rename_i hnp
   split at ah
   · rename_i vs
     rcases he with he| ⟨vs',us,e,rfl,he⟩
     · cases he with
       | cell h=>
         cases h with
         | pure hp hv=>exact absurd hp hnp
     · injection e with e;subst e
       obtain⟨A1,φ1,O1,c1,k1,k2,k3,k4,k5⟩:=vt h1 ht zQ he hU hd ah
       obtain⟨rfl,rfl⟩:=aY k1
       refine⟨rfl,.inr ⟨A1,φ1,k2,k3,k4,?_⟩⟩
       simp only[ak]
       exact⟨us,rfl,k5⟩
   · rename_i hnt
     rcases he with he| ⟨vs',us,e,rfl,he⟩
     · obtain⟨A1,φ1,O1,c1,k1,k2,k3,k4,k5⟩:=pb h1 ht zQ he hU hd ah
       obtain⟨rfl,rfl⟩:=aY k1
       exact⟨rfl,.inr ⟨A1,φ1,k2,k3,k4,k5⟩⟩
     · exact absurd e (hnt vs')
end
section
variable {X:Ctx} {μ μ1:Mu} {r0:Nat}
theorem sm {as:List V} {vals:List Value} {rs:List Nat} {ws:List dV} (ho:bu X μ) (hp:kf X μ r0 0 as vals rs ws)
   (le:Le ⟨μ.w,fu μ.φ ws,(enter as).O⟩ μ1) (h1:bu ⟨X.toTrEnv,dZ X μ rs ws,X.tok⟩ μ1) {Of:Nat→Obj} (hf:bu X ⟨μ.w,μ.φ,Of⟩) (MH: ∀w ∈ ws,Of w.r=μ.O w.r)
   {U:Nat→Prop} {A:Nat→Option Nat} {φ:Nat→Row} {O:Nat→Obj} (ht:fv ⟨X.toTrEnv,dZ X μ rs ws,X.tok⟩ ⟨μ.w,μ.φ,Of⟩ μ1 U A φ O) (hm:dN μ.φ Of φ O) (hA: ∀w ∈ ws,A w.r≠none)
   (hT: ∀j,U j→((∀es,(μ1.O j).es=some es→V.bA es=true))∨ ∀b,Own X ⟨μ1.w,φ,O⟩ b→Own ⟨X.toTrEnv,dZ X μ rs ws,X.tok⟩ μ1 b):
   Le ⟨μ.w,μ.φ,Of⟩ ⟨μ1.w,φ,O⟩∧bu X ⟨μ1.w,φ,O⟩:=by
 have MJ: ∀b,(⟨μ.w,fu μ.φ ws,(enter as).O⟩:Mu).own b→ ∃w ∈ ws,(Of w.r).es.isSome=true∧(Of w.r).fz=false∧(μ.φ w.r).cap≠0∧(μ.φ w.r).dc=b:=fun b hb=>by
   obtain⟨i,r,k1,k2,k3,k4,k5⟩:=xo hp hb
   have e:=MH _ k1
   simp only at e
   exact⟨_,k1,by rw[e];exact k2,by rw[e];exact k3,k4,k5⟩
 have XV: ∀j,(μ1.O j).es.isSome=true∧(μ1.O j).fz=false→(μ1.φ j).cap≠0→μ1.own (μ1.φ j).dc:=fun j hl hc=> ⟨j,hl.1,hl.2,hc,rfl⟩
 have kept: ∀r,A r=none→(Of r).es.isSome=true→(μ.φ r).cap≠0→(μ.φ r).dc<μ.w.heap.size∧μ1.w.heap[(μ.φ r).dc]? =μ.w.heap[(μ.φ r).dc]? ∧ ¬μ1.own (μ.φ r).dc:=fun r hr hs hc=>by
   obtain⟨es,he⟩:=Option.isSome_iff_exists.1 hs
   have bl: (μ.φ r).dc<μ.w.heap.size:=fE.dc (μ:=⟨μ.w,μ.φ,Of⟩) (hf.ok r es he) hc
   have ez: ¬ (⟨μ.w,fu μ.φ ws,(enter as).O⟩:Mu).own (μ.φ r).dc:=fun hb=>by
     obtain⟨w,k1,k2,k3,k4,k5⟩:=MJ _ hb
     have c7:w.r≠r:=fun e=>hA w k1 (e ▸ hr)
     exact hf.inj w.r r c7 k2 hs k4 hc k5
   obtain⟨l1,l2⟩:=le.cD _ bl ez
   exact⟨bl,l1,l2⟩
 have abU: ∀b,(⟨μ1.w,φ,O⟩:Mu).own b→(⟨μ.w,μ.φ,Of⟩:Mu).own b∨μ1.own b:=fun b hb=>by
   obtain⟨r,k1,k2,k3,k4⟩:=hb
   simp only at k1 k2 k3 k4
   cases e:A r with
   | none=>
     obtain⟨n1,n2⟩:=ht.A9 r e
     rw[n1] at k1 k2
     rw[n2] at k3 k4
     exact .inl ⟨r,k1,k2,k3,k4⟩
   | some j=>
     obtain⟨t,_⟩:=ht.yA r j e
     obtain⟨b1,b2⟩:=t.dc k3
     exact .inr ⟨j,t.live.1,t.live.2,b1,by rw[←b2];exact k4⟩
 have LE:Le ⟨μ.w,μ.φ,Of⟩ ⟨μ1.w,φ,O⟩:=by
   refine⟨le.size,fun b hb ez=> ?_,fun r=> (hm r).1,fun r e=> (hm r).2 e,le.os,le.output,le.tape,le.frozen⟩
   have abV: ¬ (⟨μ.w,fu μ.φ ws,(enter as).O⟩:Mu).own b:=fun rC=>by
     obtain⟨w,k1,k2,k3,k4,k5⟩:=MJ _ rC
     exact ez ⟨w.r,k2,k3,k4,k5⟩
   obtain⟨l1,l2⟩:=le.cD b hb abV
   exact⟨l1,fun h3=> (abU b h3).elim ez l2⟩
 refine⟨LE,fun r es bR=> ?_,fun r1 r2 c7 e1 e2 e3 e4 e5=> ?_,fun r k1 k2 hb=> ?_,fun b hb=>Nat.lt_of_lt_of_le (ho.blt b hb) le.size⟩
 · simp only at bR
   cases e:A r with
   | none=>
     obtain⟨n1,n2⟩:=ht.A9 r e
     simp only at n1 n2
     rw[n1] at bR
     exact fE.cD (r:=r) (r':=r) LE (hf.ok r es bR) (by simp[n1]) (by simp[n2]) (fun hc=> (kept r e (by simp[bR]) hc).2.1)
   | some j=>
     obtain⟨t,hu⟩:=ht.yA r j e
     obtain⟨es',s0,s1,s2,s3,s4,s5⟩:=t.es
     rw[bR] at s0;injection s0 with s0;subst s0
     left
     unfold kr
     simp only
     refine⟨s2,s3,s4,s5.imp id ?_⟩
     rintro⟨c,TT,vs,p1,p2,p3,p4⟩
     refine⟨c,TT,vs,p1,p2,?_,p4⟩
     rcases hT j hu with hs| hs
     · exact fD (X:=⟨X.toTrEnv,dZ X μ rs ws,X.tok⟩) (μ:=μ1) (X':=X) (μ':=⟨μ1.w,φ,O⟩) rfl (t.sc hs _ bR) p3
     · exact bQ (X:=⟨X.toTrEnv,dZ X μ rs ws,X.tok⟩) (μ:=μ1) (B:=X.Mk) (μ':=⟨μ1.w,φ,O⟩) rfl hs s1 p3
 · simp only at e1 e2 e3 e4 e5
   cases a1:A r1 with
   | none=>
     obtain⟨n1,n2⟩:=ht.A9 r1 a1
     simp only at n1 n2
     rw[n1] at e1;rw[n2] at e3 e5
     cases a2:A r2 with
     | none=>
       obtain⟨m1,m2⟩:=ht.A9 r2 a2
       simp only at m1 m2
       rw[m1] at e2;rw[m2] at e4 e5
       exact hf.inj r1 r2 c7 e1 e2 e3 e4 e5
     | some j=>
       obtain⟨t,_⟩:=ht.yA r2 j a2
       obtain⟨b1,b2⟩:=t.dc e4
       exact(kept r1 a1 e1 e3).2.2 (by rw[e5,b2];exact XV j t.live b1)
   | some j=>
     obtain⟨t,_⟩:=ht.yA r1 j a1
     obtain⟨b1,b2⟩:=t.dc e3
     cases a2:A r2 with
     | none=>
       obtain⟨m1,m2⟩:=ht.A9 r2 a2
       simp only at m1 m2
       rw[m1] at e2;rw[m2] at e4 e5
       exact(kept r2 a2 e2 e4).2.2 (by rw[←e5,b2];exact XV j t.live b1)
     | some j2=>
       obtain⟨t2,_⟩:=ht.yA r2 j2 a2
       obtain⟨c1,c2⟩:=t2.dc e4
       refine h1.inj j j2 (fun e=>c7 (ht.inj r1 r2 j a1 (e ▸ a2))) t.live.1 t2.live.1 b1 c1 ?_
       rw[←b2,←c2];exact e5
 · simp only at k1 k2 hb
   cases a1:A r with
   | none=>
     obtain⟨n1,n2⟩:=ht.A9 r a1
     simp only at n1 n2
     rw[n1] at k1;rw[n2] at k2 hb
     exact hf.sR r k1 k2 hb
   | some j=>
     obtain⟨t,_⟩:=ht.yA r j a1
     obtain⟨b1,b2⟩:=t.dc k2
     exact h1.sR j t.live.1 b1 (.inl (b2 ▸ hb))
end
end Go.AM
namespace Go.AM
open Go Go.RowKit
section
variable {X:Ctx} {μ μ1:Mu} {r0:Nat} {C:bj} {T:Nat→V}
theorem E3 {as:List V} {vals:List Value} {rs:List Nat} {ws:List dV} (ho:bu X μ) (hp:kf X μ r0 0 as vals rs ws) (MG:apart rs (ws.map (·.r))=true) (hd:distinct (ws.map (·.r))=true)
   (le:Le ⟨μ.w,fu μ.φ ws,(enter as).O⟩ μ1) (h1:bu ⟨X.toTrEnv,dZ X μ rs ws,X.tok⟩ μ1) {res:fL} {refs:List Nat} {v0:V} {val:Value} {T':Nat→V} (hv:ak ⟨X.toTrEnv,dZ X μ rs ws,X.tok⟩ μ1 v0 val)
   (abW:dt as.length ⟨T',μ1.O⟩ v0 res.val refs) (hdr:distinct refs=true) (HN:bW μ1.O 0 as=some res.outs) {bK:Bool} {r:Nat} {v:V} {σ':St}
   (ah: (if res.val.isScalar &&res.outs.all (fun o=>V.bA o.2) then cM ws res.outs fun gs=>cn bK r gs res.val .done else cp rs (cM ws res.outs fun gs=>cn bK r gs res.val .done)).run C ⟨T,μ.O⟩=some (v,σ')):
   σ'.T=T∧ ∃φ',ak X ⟨μ1.w,φ',σ'.O⟩ v val∧Le μ ⟨μ1.w,φ',σ'.O⟩∧bu X ⟨μ1.w,φ',σ'.O⟩:=by
 have hR:=abW.XU h1 hv
 have hi:=hp.inc
 have cP: ∀w ∈ ws,w.fresh=none→(μ1.O w.i).gen=0→μ1.φ w.i=μ.φ w.r:=fun w hw XW hg=>by
   have KA: ((enter as).O w.i).gen=0:=by
     rcases jA hp w.i with h| ⟨_,_,_,_,_,_,h,_⟩ | ⟨_,_,_,h,_⟩
     · rw[h];rfl
     · exact h
     · exact h
   obtain⟨e1,_⟩:=le.row w.i (by rw[hg];exact KA.symm)
   rw[e1]
   have:=iv (φ:=μ.φ) hi w hw
   rw[XW] at this
   exact this
 have start: ∀ (Of:Nat→Obj) (S:Nat→Prop),fv ⟨X.toTrEnv,dZ X μ rs ws,X.tok⟩ ⟨μ.w,μ.φ,Of⟩ μ1 (fun j=>j< 0∧S j) (fun _=>none) μ.φ Of:=fun Of S=>
   ⟨fun _ _=> ⟨rfl,rfl⟩,fun _ _ e=>by simp at e,fun _ _ _ e=>by simp at e⟩
 split at ah
 · rename_i hsc
   simp only[Bool.and_eq_true] at hsc
   obtain⟨tI,yZ⟩:=hsc
   have hS: ∀w ∈ ws,∀es,(μ1.O w.i).es=some es→V.bA es=true:=fun w hw es he=>by
     obtain⟨g,es',k1,k2⟩:=HM hp HN w hw
     rw[he] at k1;injection k1 with k1;subst k1
     exact(List.all_eq_true.1 yZ) _ k2
   obtain⟨A,φ,O,gs,k1,k2,k3,k4,k5,k6⟩:=o9 (μf:=⟨μ.w,μ.φ,μ.O⟩) h1 cP rfl (fun _ _=>rfl) (S:=fun j=> ∀es,(μ1.O j).es=some es→V.bA es=true) hS hp HN (start μ.O _) (fun w hw=>hw) (fun _ _=>rfl) hd ah
   have mh:=j3 tI
   unfold cn at k1
   rw[if_pos mh] at k1
   obtain⟨rfl,rfl⟩:=aY k1
   obtain⟨b1,b2⟩:=sm ho hp le h1 (Of:=μ.O) ho (fun _ _=>rfl) k2 k3 k4 (fun j hj=> .inl hj.2)
   exact⟨rfl,φ,mJ (X:=⟨X.toTrEnv,dZ X μ rs ws,X.tok⟩) (μ:=μ1) (X':=X) (μ':=⟨μ1.w,φ,O⟩) rfl tI (hR.pure mh),b1,b2⟩
 · obtain⟨Of,f1,f2,f3,f4,f5⟩:=je (X:=X) (w:=μ.w) (φ:=μ.φ) rs ho ah
   have MH: ∀w ∈ ws,Of w.r=μ.O w.r:=fun w hw=>f4 _ fun hr=>by
     have:=List.all_eq_true.1 MG w.r (List.mem_map.2 ⟨w,hw,rfl⟩)
     simp[hr] at this
   obtain⟨A,φ,O,gs,k1,k2,k3,k4,k5,k6⟩:=o9 (μf:=⟨μ.w,μ.φ,Of⟩) h1 cP rfl MH (S:=fun _=>True) (fun _ _=>trivial) hp HN (start Of _) (fun w hw=>hw) (fun _ _=>rfl) hd f1
   obtain⟨hT,mS⟩:=tL h1 k2 k6 hR (fun j _ hn hu=>by have:=hu.1;omega) hdr k1
   have XX: ∀ {U:Nat→Prop} {A:Nat→Option Nat} {φ:Nat→Row} {O:Nat→Obj},fv ⟨X.toTrEnv,dZ X μ rs ws,X.tok⟩ ⟨μ.w,μ.φ,Of⟩ μ1 U A φ O→(∀w ∈ ws,A w.r≠none)→(∀j,U j→bK=true∨j<as.length)→
       ∀b,Own X ⟨μ1.w,φ,O⟩ b→after ⟨X.toTrEnv,dZ X μ rs ws,X.tok⟩ μ1 as.length bK b:=by
     intro U A φ O ht hA hU b hb
     rcases hb with⟨r',q1,q2,q3,q4⟩ | hb
     · simp only at q1 q2 q3 q4
       cases e:A r' with
       | none=>
         obtain⟨n1,n2⟩:=ht.A9 r' e
         simp only at n1 n2
         rw[n1] at q1 q2;rw[n2] at q3 q4
         have HF:r' ∉ rs:=fun h=>by rw[f5 r' h] at q2;simp at q2
         have oH:r' ∉ ws.map (·.r):=fun h=>by
          obtain⟨w,hw,e'⟩:=List.mem_map.1 h
          exact hA w hw (by rw[e'];exact e)
         rw[f4 r' HF] at q1 q2
         exact .inl (.inr ⟨r',HF,oH,q1,q2,q3,q4⟩)
       | some j=>
         obtain⟨t,hu⟩:=ht.yA r' j e
         obtain⟨b1,b2⟩:=t.dc q3
         exact .inr ⟨j,hU j hu,t.live.1,t.live.2,b1,by rw[←b2];exact q4⟩
     · exact .inl (.inl hb)
   refine⟨hT,?_⟩
   rcases mS with⟨mh,rfl,hO,hvv⟩ | ⟨A',φ',m1,m2,m3,m4⟩
   · have im:=XX k2 k4 (fun j hj=> .inr (by have:=hj.1;omega))
     have Dp: ∀b,Own X ⟨μ1.w,φ,O⟩ b→Own ⟨X.toTrEnv,dZ X μ rs ws,X.tok⟩ μ1 b:=fun b hb=>jB (φ:=φ) (O:=O) (.inr (im b hb))
     obtain⟨b1,b2⟩:=sm ho hp le h1 (Of:=Of) f3 MH k2 k3 k4 (fun j hj=> .inr Dp)
     rw[hO]
     exact⟨φ,dC (X:=⟨X.toTrEnv,dZ X μ rs ws,X.tok⟩) (μ:=μ1) (B:=X.Mk) (μ':=⟨μ1.w,φ,O⟩) rfl Dp mh hvv,f2.trans b1,b2⟩
   · have hA': ∀w ∈ ws,A' w.r≠none:=fun w hw=>m3 _ (k4 w hw)
     have im:=XX m1 hA' (fun j hj=>hj.elim (fun h=> .inr (by have:=h.1;omega)) fun h=> .inl h.1)
     have Dp: ∀b,Own X ⟨μ1.w,φ',σ'.O⟩ b→Own ⟨X.toTrEnv,dZ X μ rs ws,X.tok⟩ μ1 b:=fun b hb=>jB (φ:=φ') (O:=σ'.O) (.inr (im b hb))
     obtain⟨b1,b2⟩:=sm ho hp le h1 (Of:=Of) f3 MH m1 (k3.trans m2) hA' (fun j hj=> .inr Dp)
     refine⟨φ',weaken (X:=⟨X.toTrEnv,after ⟨X.toTrEnv,dZ X μ rs ws,X.tok⟩ μ1 as.length bK,X.tok⟩) (μ:=quiet μ1 φ' σ'.O) (X':=X) (μ':=⟨μ1.w,φ',σ'.O⟩) rfl rfl rfl rfl (fun _=> ⟨rfl,rfl⟩) (fun b hb=> .inr (im b hb)) m4,f2.trans b1,b2⟩
end
end Go.AM
namespace Go.AM
open Go Go.RowKit
section
variable {X:Ctx} {E:Env} {C:bj} {o:Oper} {a:Go.Act} {T:Nat→V} {μ:Mu} {v:V} {σ':St}
theorem XY {C:bj} {act:Act}: ∀ {σ σ':St} {v:V},act.run C σ=some (v,σ')→σ'.T=σ.T:=by
 induction act with
 | done u=>intro σ σ' v h;obtain⟨_,rfl⟩:=aY h;rfl
 | fail=>intro σ σ' v h;exact absurd h au
 | mL t k ih=>intro σ σ' v h;exact ih _ h
 | bV r k ih=>intro σ σ' v h;exact ih _ h
 | bI r o k ih=>intro σ σ' v h;have:=ih h;simpa using this
 | call f as k ih=>
   intro σ σ' v h
   simp only[Act.run] at h
   split at h
   · exact ih _ h
   · simp at h
theorem xp {h:Rel X T a μ} (O:Nat→Obj): ∀ {xs:List Operand} {ys:List aW},qI X xs=some ys→aj X μ (ys.map (bo ⟨T,O⟩)) (xs.map a.eval)
 | [],ys,e=>by simp[qI] at e;subst e;simp[aj]
 | x::xs,ys,e=>by
   simp only[qI] at e
   split at e
   · rename_i y ys' h1 h2
     injection e with e;subst e
     simp only[List.map_cons,aj]
     exact⟨aT h h1 O,xp (h:=h) O h2⟩
   · simp at e
theorem HO (  hC: ∀f F as res,X.jR F=some f→C f as=some res→cY X.toTrEnv F as res) {h:Hints} {dst:Nat} {c:Call} {oG:rA} (hr:Rel X T a μ) (ho:o.op= .call c) (aR:uS X h dst c=some oG) (BS:oG.iu=true)
   (ah: (av E oG).run C ⟨T,μ.O⟩=some (v,σ')):σ'.T=T∧ ∀ (next:Go.Act→World→Prop) (Q:Go.Exit→Go.Act→World→Prop),
   (∀val w' φ',ak X ⟨w',φ',σ'.O⟩ v val→Le μ ⟨w',φ',σ'.O⟩→bu X ⟨w',φ',σ'.O⟩→next (a.put o.dst val) w')→o.wp X.P a μ.w next Q:=by
 unfold uS at aR
 split at aR
 · rename_i f abX
   split at aR
   · rename_i f' as' hf has
     injection aR with aR;subst aR
     simp only[av,bB] at ah
     split at ah
     · rename_i f0 caps IQ
       rw[qN] at ah
       have XW:=aT hr hf μ.O
       rw[IQ] at XW
       simp only[ak] at XW
       obtain⟨F,cv,hF,RO,MF⟩:=XW
       have jX:=(xp (h:=hr) μ.O has).append MF
       simp only[rL] at ah
       obtain⟨as,rs,ws,h1,hp⟩:=eU hr.bg jX ah
       split at h1
       · rename_i w9
         simp only[Bool.and_eq_true] at w9
         obtain⟨MG,hd⟩:=w9
         simp only[Act.run] at h1
         split at h1
         · rename_i res mS
           have hS:=hC f0 F as res RO mS
           obtain⟨e1,e2,e3⟩:=Ag hr.bg hp MG hd
           have hU:=hS (dZ X μ rs ws) X.tok μ.w (fu μ.φ ws) _ e1 e2 e3
           have ku: (execOp a.eval o).run X.P μ.w=(callFunc F (List.map a.eval c.args.toList++cv.toList).toArray).run X.P μ.w:=by
            have hea: (c.args.map a.eval)++cv=(List.map a.eval c.args.toList++cv.toList).toArray:=by
             apply Array.toList_inj.1;simp
            simp only[execOp,ho,resolve,abX,hF,Deferred.ofValue,Sem.run_bind]
            rw[←hea]
            simp[invoke,Sem.run]
           have key: ∀val w',(∃φ' T' O' v0 refs,Le ⟨μ.w,fu μ.φ ws,(enter as).O⟩ ⟨w',φ',O'⟩∧bu ⟨X.toTrEnv,dZ X μ rs ws,X.tok⟩ ⟨w',φ',O'⟩∧
             ak ⟨X.toTrEnv,dZ X μ rs ws,X.tok⟩ ⟨w',φ',O'⟩ v0 val∧dt as.length ⟨T',O'⟩ v0 res.val refs∧distinct refs=true∧bW O' 0 as=some res.outs)→
             σ'.T=T∧ ∃φ',ak X ⟨w',φ',σ'.O⟩ v val∧Le μ ⟨w',φ',σ'.O⟩∧bu X ⟨w',φ',σ'.O⟩:=by
            rintro val w' ⟨φ',T',O',v0,refs,k1,k2,k3,k4,k5,k6⟩
            exact E3 hr.bg hp MG hd k1 k2 k3 k4 k5 k6 h1
           have hTT:σ'.T=T:=XY h1
           refine⟨hTT,fun next Q hn=> ?_⟩
           unfold Oper.wp
           rw[ku]
           exact hU.upon fun val w' hv=>by
            obtain⟨_,φ',q1,q2,q3⟩:=key val w' hv
            exact hn val w' φ' q1 q2 q3
         · simp at h1
       · exact absurd h1 au
     · exact absurd ah au
   · simp at aR
 · simp at aR
 · rename_i b hc
   exfalso
   revert aR
   split<;> (try split) <;> (try split) <;> (try split) <;>simp<;> (try (intro e;subst e;simp[rA.iu] at BS)) <;> (try (intros;subst_vars;simp[rA.iu] at BS)) <;> (try (rintro rfl;simp[rA.iu] at BS))
   all_goals (split at BS<;>first| (simp at BS;done) | (split at BS<;>simp at BS) | (rename_i h9;split at h9<;>simp at h9))
theorem yC {op:BinOp} {t:TypeId} {x y:aW} {oG:rA} (h:Da X op t x y=some oG):oG.iu=false:=by
 unfold Da at h
 repeat' split at h
 all_goals first
  | (injection h with h;subst h;rfl)
  | (simp only[Option.map_eq_some_iff] at h;obtain⟨_,_,rfl⟩:=h;rfl)
  | (simp at h;done)
theorem pK {α:Type} {x:Option α} {f:α→rA} {oG:rA} (h:x.map f=some oG) (hf: ∀a,(f a).iu=false):oG.iu=false:=by
 cases x with
 | none=>simp at h
 | some a=>simp at h;subst h;exact hf a
theorem wq {h:Hints} {dst:Nat} {x:Operand} {oG:rA} (ht:uR X h dst x=some oG):oG.iu=false:=by
 unfold uR at ht
 split at ht
 · injection ht with ht;subst ht;rfl
 · split at ht
   · exact pK ht fun _=>rfl
   · exact pK ht fun _=>rfl
theorem Aj {h:Hints} {dst:Nat} {op:Op} {oG:rA} (hn: ∀c,op≠ .call c) (aR:we X h dst op=some oG):oG.iu=false:=by
 unfold we at aR
 split at aR
 all_goals try exact absurd rfl (hn _)
 all_goals
  repeat' split at aR
  all_goals first
   | (injection aR with aR;subst aR;rfl)
   | (injection aR with aR;subst aR;split<;>rfl)
   | exact pK aR fun _=>rfl
   | exact yC aR
   | exact wq aR
   | (exfalso;simp at aR;done)
theorem B8 (mP: ∀t1 t2 k,X.jb t1=some k→X.jb t2=some k→t1=t2) (hC: ∀f F as res,X.jR F=some f→C f as=some res→cY X.toTrEnv F as res):nG X E C:=by
 intro h dst o oG a T μ v σ' hr aR ah
 cases hc:oG.iu with
 | true=>
   cases dO:o.op with
   | call c=>
     rw[dO] at aR
     simp only[we] at aR
     exact HO hC hr dO aR hc ah
   | _=>
     have:=Aj (by rw[dO];simp) aR
     rw[this] at hc;simp at hc
 | false=>
   obtain⟨hT,val,w',φ',Ak,h1,h2,h3⟩:=Hs mP hr aR hc ah
   refine⟨hT,fun next Q hn=> ?_⟩
   unfold Oper.wp
   rcases Ak with Ak| ⟨Ak,rfl⟩
   · rw[Ak];exact hn _ _ _ h1 h2 h3
   · rw[Ak];exact hn _ _ _ h1 h2 h3
end
end Go.AM
namespace Go.AM
open Go Go.RowKit
theorem mm: ∀l:List V,V.erases l=l.map V.erase
 | []=>rfl
 | v::vs=>by simp only[V.erases,List.map_cons,mm vs]
theorem dE (l:List V): (V.erases l).length=l.length:=by rw[mm];simp
theorem q9 (v:V):v.erase.aP=v.aP:=by cases v<;>rfl
theorem Al (v:V):v.erase.isAgg=v.isAgg:=by cases v<;>rfl
theorem j4 (v:V):v.erase.c6=v.c6:=by unfold V.c6;rw[Al,q9]
theorem Am (v:V):v.erase.cells=V.erases v.cells:=by cases v<;>rfl
theorem wv (v:V) (sz:Nat):aS v.erase sz=aS v sz:=by unfold aS;rw[Am,dE,j4]
theorem j5 {p:V→Bool} (hp: ∀v,p v.erase=p v): ∀l:List V,(V.erases l).all p=l.all p
 | []=>rfl
 | v::vs=>by simp only[V.erases,List.all_cons,hp,j5 hp vs]
mutual
theorem eK: ∀v:V,v.erase.aC=v.aC
 | .agg cs=>by simp only[V.erase,V.aC];exact cE cs
 | .tuple cs=>by simp only[V.erase,V.aC];exact cE cs
 | .mlit es=>by simp only[V.erase,V.aC];exact cE es
 | .fn f cs=>by simp only[V.erase,V.aC];exact cE cs
 | .iface t v=>by simp only[V.erase,V.aC];exact eK v
 | .litk .. | .epk .. | .lit .. | .own .. | .eptr .. | .msl .. | .mptr .. | .bool _| .int .. | .float _| .str _| .nilp| .nilfn| .nili| .nils| .sl .. | .ptr .. | .mp .. | .it .. | .any=>rfl
theorem cE: ∀l:List V,V.an (V.erases l)=V.an l
 | []=>rfl
 | v::vs=>by simp only[V.erases,V.an,eK v,cE vs]
end
theorem kM (es:List V) (off len:Nat):aN (V.erases es) off len=V.erases (aN es off len):=by
 simp only[aN,mm,List.map_take,List.map_drop]
section
variable {X X':Ctx} {μ μ':Mu}
mutual
theorem ak.erase (hX:X'.toTrEnv=X.toTrEnv) (hw:μ'.w=μ.w) (hφ:μ'.φ=μ.φ) (hO: ∀r,(μ'.O r).gen=(μ.O r).gen∧(μ'.O r).sz=(μ.O r).sz) (ho: ∀b,Own X' μ' b→Own X μ b): ∀ {x:V} {v:Value},ak X μ x v→ak X' μ' x.erase v
 | .bool _,_,h| .int ..,_,h| .float _,_,h| .str _,_,h| .nilp,_,h| .nilfn,_,h| .nili,_,h| .nils,_,h=>by simpa [V.erase,ak] using h
 | .any,_,_=>by simp[V.erase,ak]
 | .own ..,_,h| .msl ..,_,h| .mptr ..,_,h=>by simp[ak] at h
 | .agg cs,_,h=>by
   simp only[V.erase,ak] at h ⊢
   obtain⟨h1,vs,rfl,h2⟩:=h
   exact⟨by rw[j5 q9];exact h1,vs,rfl,aj.erase hX hw hφ hO ho h2⟩
 | .tuple cs,_,h=>by
   simp only[V.erase,ak] at h ⊢
   obtain⟨vs,rfl,h2⟩:=h
   exact⟨vs,rfl,aj.erase hX hw hφ hO ho h2⟩
 | .fn f cs,_,h=>by
   simp only[V.erase,ak] at h ⊢
   obtain⟨F,cv,rfl,h1,h2⟩:=h
   exact⟨F,cv,rfl,by rw[hX];exact h1,aj.erase hX hw hφ hO ho h2⟩
 | .iface t x,_,h=>by
   simp only[V.erase,ak] at h ⊢
   obtain⟨F,y,rfl,h1,h2⟩:=h
   exact⟨F,y,rfl,by rw[hX];exact h1,ak.erase hX hw hφ hO ho h2⟩
 | .lit sz xs,_,h=>by
   simp only[V.erase,ak] at h ⊢
   obtain⟨h0,ke,a,cap,vs,rfl,h1,h2,h3⟩:=h
   refine⟨by rw[cE];exact h0,by rw[j5 j4];exact ke,a,cap,vs,by rw[dE],by rw[dE];exact h1,aj.erase hX hw hφ hO ho h2,h3.imp (fun h=>by rw[h];rfl) ?_⟩
   rintro⟨b,o,rfl,hb,hs,hr⟩
   exact⟨b,o,rfl,fun hh=>hb (ho b hh),by rw[hw];exact hs,by rw[hw];exact hr⟩
 | .litk sz xs,_,h=>by
   simp only[V.erase,ak] at h ⊢
   obtain⟨h0,ke,a,cap,vs,rfl,h1,h2,h3⟩:=h
   refine⟨by rw[cE];exact h0,by rw[j5 j4];exact ke,a,cap,vs,by rw[dE],by rw[dE];exact h1,aj.erase hX hw hφ hO ho h2,h3.imp (fun h=>by rw[h];rfl) ?_⟩
   rintro⟨rfl,hb,hs,hr⟩
   exact⟨_,_,rfl,fun hh=>hb (ho _ hh),by rw[hw];exact hs,by rw[hw];exact hr⟩
 | .sl r g off len,_,h=>by
   simp only[V.erase,ak] at h ⊢
   rw[hφ,(hO r).1,(hO r).2];exact h
 | .ptr r g idx off,_,h=>by
   simp only[V.erase,ak] at h ⊢
   rw[hφ,(hO r).1,(hO r).2];exact h
 | .eptr e off,_,h=>by
   simp only[V.erase,ak] at h ⊢
   obtain⟨h0,ke,b,o,sz,x,rfl,hb,hs,h1,hr⟩:=h
   exact⟨by rw[eK];exact h0,by rw[j4];exact ke,b,o,sz,x,rfl,fun hh=>hb (ho b hh),by rw[hw];exact hs,ak.erase hX hw hφ hO ho h1,by rw[hw];exact hr⟩
 | .epk i sz e off,_,h=>by
   simp only[V.erase,ak] at h ⊢
   obtain⟨h0,ke,x,rfl,hb,hs,h1,hr⟩:=h
   exact⟨by rw[eK];exact h0,by rw[j4];exact ke,_,X.tok.2+i*sz,sz,x,rfl,fun hh=>hb (ho _ hh),by rw[hw];exact hs,ak.erase hX hw hφ hO ho h1,by rw[hw];exact hr⟩
 | .mp r g,_,h| .it r g,_,h=>by
   simp only[V.erase,ak] at h ⊢
   rw[hφ,(hO r).1,(hO r).2];exact h
 | .mlit es,_,h=>by
   simp only[V.erase,ak] at h ⊢
   obtain⟨h0,h⟩:=h
   refine⟨by rw[cE];exact h0,h.imp (fun h=> ⟨by rw[h.1];rfl,h.2⟩) ?_⟩
   rintro⟨a,ents,clock,rfl,hb,hs,h1,h2⟩
   exact⟨a,ents,clock,rfl,fun hh=>hb (ho a hh),by rw[hw];exact hs,by rw[hw];exact h1,aj.erase hX hw hφ hO ho h2⟩
theorem aj.erase (hX:X'.toTrEnv=X.toTrEnv) (hw:μ'.w=μ.w) (hφ:μ'.φ=μ.φ) (hO: ∀r,(μ'.O r).gen=(μ.O r).gen∧(μ'.O r).sz=(μ.O r).sz) (ho: ∀b,Own X' μ' b→Own X μ b): ∀ {xs:List V} {vs:List Value},aj X μ xs vs→aj X' μ' (V.erases xs) vs
 | [],[],_=>by simp[V.erases,aj]
 | [],_::_,h=>by simp[aj] at h
 | _::_,[],h=>by simp[aj] at h
 | x::xs,v::vs,h=>by
   simp only[V.erases,aj] at h ⊢
   exact⟨ak.erase hX hw hφ hO ho h.1,aj.erase hX hw hφ hO ho h.2⟩
end
end
def dB (O:Nat→Obj):Nat→Obj:=fun r=> {O r with es:=(O r).es.map V.erases}
section
variable {X:TrEnv} {B:Nat→Prop} {K K':Nat×Nat} {w:World} {φ:Nat→Row} {O:Nat→Obj}
theorem mq {b:Nat}: (Mu.mk w φ (dB O)).own b↔(Mu.mk w φ O).own b:=by
 simp only[Mu.own,dB,Option.isSome_map]
theorem xq {x:V} {v:Value} (h:ak ⟨X,B,K⟩ ⟨w,φ,O⟩ x v):ak ⟨X,B,K'⟩ ⟨w,φ,dB O⟩ x.erase v:=
 ak.erase (X:=⟨X,B,K⟩) (X':=⟨X,B,K'⟩) (μ:=⟨w,φ,O⟩) (μ':=⟨w,φ,dB O⟩) rfl rfl rfl (fun _=> ⟨rfl,rfl⟩) (fun b hb=>hb.imp mq.1 id) h
theorem pL {xs:List V} {vs:List Value} (h:aj ⟨X,B,K⟩ ⟨w,φ,O⟩ xs vs):aj ⟨X,B,K'⟩ ⟨w,φ,dB O⟩ (V.erases xs) vs:=
 aj.erase (X:=⟨X,B,K⟩) (X':=⟨X,B,K'⟩) (μ:=⟨w,φ,O⟩) (μ':=⟨w,φ,dB O⟩) rfl rfl rfl (fun _=> ⟨rfl,rfl⟩) (fun b hb=>hb.imp mq.1 id) h
theorem tk (h:bu ⟨X,B,K⟩ ⟨w,φ,O⟩):bu ⟨X,B,K'⟩ ⟨w,φ,dB O⟩ where
 ok:=fun r es bR=>by
  simp only[dB,Option.map_eq_some_iff] at bR
  obtain⟨ng,abY,rfl⟩:=bR
  rcases h.ok r ng abY with⟨h1,h2,h3,h4⟩ | ⟨h1,h2,ob,h3,h4⟩
  · refine .inl ⟨h1,by rw[dE];exact h2,by rw[j5 (fun v=>wv v _)];exact h3,h4.imp id ?_⟩
    rintro⟨c,T,vs,k1,k2,k3,k4⟩
    exact⟨c,T,vs,k1,k2,pL k3,k4⟩
  · refine .inr ⟨h1,h2,ob,h3,?_⟩
    rcases h4 with⟨ents,clock,k1,k2,k3⟩ | ⟨s,pos,k1,k2⟩ | ⟨mo,since,es1,k1,k2,k3⟩
    · exact .inl ⟨ents,clock,k1,pL k2,k3⟩
    · exact .inr (.inl ⟨s,pos,k1,by rw[k2];rfl⟩)
    · refine .inr (.inr ⟨mo,since,V.erases es1,k1,by rw[k2];rfl,k3.imp (fun h=> ⟨h.1,by rw[h.2];rfl⟩) ?_⟩)
      rintro⟨m,ents,l1,l2,l3,l4,l5,l6⟩
      exact⟨m,ents,l1,fun hh=>l2 (hh.imp mq.1 id),l3,l4,l5,pL l6⟩
 inj:=fun r r' c7 h1 h2 h3 h4=>h.inj r r' c7 (by simpa [dB] using h1) (by simpa [dB] using h2) h3 h4
 sR:=fun r h1 h2=>h.sR r (by simpa [dB] using h1) h2
 blt:=h.blt
theorem lE {n:Nat} {T T':Nat→V} {c c':V} {rs:List Nat} (h:bO n ⟨T,O⟩ c=some (c',rs)):bO n ⟨T',dB O⟩ c.erase=some (c'.erase,rs):=by
 have other: (∀r g off len,c≠ .sl r g off len)→c.aC=true→c'=c∧rs=[]→bO n ⟨T',dB O⟩ c.erase=some (c'.erase,rs):=by
   rintro XZ hp ⟨rfl,rfl⟩
   have A7:c'.erase.aC=true:=by rw[eK];exact hp
   cases c'<;>first| exact absurd rfl (XZ _ _ _ _) | (simp only[V.erase] at A7 ⊢;simp only[bO,A7,if_true])
 unfold bO at h
 split at h
 · rename_i r g off len
   simp only[V.erase,bO]
   split at h
   · rename_i es bR
     have fF: (dB O r).es=some (V.erases es):=by
       have: (O r).es=some es:=bR
       simp only[dB,this,Option.map_some]
     simp only[fF]
     split at h
     · rename_i hc
       have A4: (dB O r).gen=g∧off+len≤(V.erases es).length∧(dB O r).arr=true∧V.an (aN (V.erases es) off len)=true:=
         ⟨hc.1,by rw[dE];exact hc.2.1,hc.2.2.1,by rw[kM,cE];exact hc.2.2.2⟩
       rw[if_pos A4]
       split at h
       · rename_i hr
         rw[if_pos hr]
         simp only[Option.some.injEq,Prod.mk.injEq] at h
         obtain⟨rfl,rfl⟩:=h;rfl
       · rename_i hr
         rw[if_neg hr]
         split at h
         · rename_i hf
           rw[if_pos (show (dB O r).fz=true from hf)]
           simp only[Option.some.injEq,Prod.mk.injEq] at h
           obtain⟨rfl,rfl⟩:=h
           simp only[V.erase,kM]
           rfl
         · rename_i hf
           rw[if_neg (show ¬ (dB O r).fz=true from hf)]
           simp only[Option.some.injEq,Prod.mk.injEq] at h
           obtain⟨rfl,rfl⟩:=h
           simp only[V.erase,kM]
           rfl
     · simp at h
   · simp at h
 · rename_i XZ
   split at h
   · rename_i hp
     simp only[Option.some.injEq,Prod.mk.injEq] at h
     obtain⟨rfl,rfl⟩:=h
     exact other (fun r g off len e=>XZ r g off len e) hp ⟨rfl,rfl⟩
   · simp at h
theorem gQ {n:Nat} {T T':Nat→V}: ∀ {cs cN:List V} {rs:List Nat},bE n ⟨T,O⟩ cs=some (cN,rs)→bE n ⟨T',dB O⟩ (V.erases cs)=some (V.erases cN,rs)
 | [],cN,rs,h=>by
   simp only[bE,Option.some.injEq,Prod.mk.injEq] at h
   obtain⟨rfl,rfl⟩:=h;rfl
 | c::cs,cN,rs,h=>by
   simp only[bE] at h
   split at h
   · rename_i c1 r1 S6 RR h1 h2
     simp only[Option.some.injEq,Prod.mk.injEq] at h
     obtain⟨rfl,rfl⟩:=h
     simp only[V.erases,bE,lE (T':=T') h1,gQ h2]
   · simp at h
theorem pc {n:Nat} {T T':Nat→V} {v v':V} {rs:List Nat} (h:cL n ⟨T,O⟩ v=some (v',rs)):cL n ⟨T',dB O⟩ v.erase=some (v'.erase,rs):=by
 unfold cL at h
 split at h
 · rename_i hp
   simp only[Option.some.injEq,Prod.mk.injEq] at h
   obtain⟨rfl,rfl⟩:=h
   simp only[cL,eK,hp,if_true]
 · rename_i hp
   have A7: ¬v.erase.aC=true:=by rw[eK];exact hp
   unfold cL
   rw[if_neg A7]
   split at h
   · rename_i cs
     split at h
     · rename_i S6 RR h1
       simp only[Option.some.injEq,Prod.mk.injEq] at h
       obtain⟨rfl,rfl⟩:=h
       simp only[V.erase,gQ (T':=T') h1]
     · simp at h
   · rename_i f cs
     split at h
     · rename_i S6 RR h1
       split at h
       · rename_i hc
         simp only[Option.some.injEq,Prod.mk.injEq] at h
         obtain⟨rfl,rfl⟩:=h
         simp only[V.erase,gQ (T':=T') h1,cE,hc,if_true]
       · simp at h
     · simp at h
   · rename_i h1 h2
     have:=lE (T':=T') h
     cases v<;>first| exact absurd rfl (h1 _) | exact absurd rfl (h2 _ _) | exact this
theorem nO {n:Nat} {T T':Nat→V}: ∀ {cs cN:List V} {rs:List Nat},cm n ⟨T,O⟩ cs=some (cN,rs)→cm n ⟨T',dB O⟩ (V.erases cs)=some (V.erases cN,rs)
 | [],cN,rs,h=>by
   simp only[cm,Option.some.injEq,Prod.mk.injEq] at h
   obtain⟨rfl,rfl⟩:=h;rfl
 | c::cs,cN,rs,h=>by
   simp only[cm] at h
   split at h
   · rename_i c1 r1 S6 RR h1 h2
     simp only[Option.some.injEq,Prod.mk.injEq] at h
     obtain⟨rfl,rfl⟩:=h
     simp only[V.erases,cm,pc (T':=T') h1,nO h2]
   · simp at h
theorem dt.erase {n:Nat} {T T':Nat→V} {v0 v:V} {rs:List Nat} (h:dt n ⟨T,O⟩ v0 v rs):dt n ⟨T',dB O⟩ v0.erase v.erase rs:=by
 cases h with
 | one h=>exact .one (pc h)
 | many h=>simp only[V.erase];exact .many (nO h)
end
theorem B9 {v:V} (h:v.aC=true): (uF v).aC=true:=by
 unfold uF;split
 · rfl
 · exact h
theorem ra (v:V): (uF v).aP=v.aP:=by
 unfold uF;split<;>rfl
section
variable {X:TrEnv} {B:Nat→Prop} {K:Nat×Nat} {μ:Mu}
theorem E4 (c:Nat) {x:V} {v:Value} (hx: ∀K,ak ⟨X,B,K⟩ μ x v): ∃K,ak ⟨X,B,K⟩ μ (zk c x) v:=by
 unfold zk
 split
 · rename_i cs
   by_cases hc: ∃sz xs,cs[c]? =some (.lit sz xs)∧xs≠[]
   · obtain⟨sz,xs,db,c7⟩:=hc
     obtain⟨h1,vs,rfl,h2⟩:cs.all V.aP=true∧ ∃vs,v= .agg vs∧aj ⟨X,B,(0,0)⟩ μ cs vs.toList:=by have:=hx (0,0);simpa only[ak] using this
     obtain⟨u,hu,bU⟩:=h2.get db
     simp only[ak] at bU
     obtain⟨k0,S7,a,cap,us,rfl,k1,k2,k3⟩:=bU
     obtain⟨b,o,rfl,k4,k5,k6⟩:=k3.resolve_left c7
     refine⟨(b,o),?_⟩
     have BI:aj ⟨X,B,(b,o)⟩ μ cs vs.toList:=by
       have:=hx (b,o)
       simp only[ak] at this
       obtain⟨_,vs',e,h⟩:=this
       injection e with e;subst e;exact h
     simp only[ak]
     refine⟨?_,vs,rfl,?_⟩
     · rw[List.all_eq_true] at h1 ⊢
       intro y hy
       obtain⟨i,hi⟩:=List.mem_iff_getElem?.1 hy
       rw[List.getElem?_modify,Option.map_eq_map,Option.map_eq_some_iff] at hi
       obtain⟨z,hz,rfl⟩:=hi
       have I3:=h1 z (List.mem_of_getElem? hz)
       split
       · rw[ra];exact I3
       · exact I3
     · refine aj.uV (by rw[List.length_modify];exact BI.length) fun i y u' hy BD=> ?_
       rw[List.getElem?_modify,Option.map_eq_map,Option.map_eq_some_iff] at hy
       obtain⟨z,hz,rfl⟩:=hy
       obtain⟨u2,KO,oH⟩:=BI.get hz
       rw[BD] at KO;injection KO with KO;subst KO
       by_cases Mr:c=i
       · subst Mr
         rw[if_pos rfl]
         rw[db] at hz;injection hz with hz;subst hz
         rw[hu] at BD;injection BD with BD;subst BD
         simp only[uF,ak]
         simp only[ak] at oH
         obtain⟨_,_,a',Ew,IV,e,_,m2,m3⟩:=oH
         injection e with e1 e2 e3
         subst e1;subst e3
         refine⟨k0,S7,_,cap,IV,rfl,k1,m2,.inr ⟨rfl,k4,k5,?_⟩⟩
         rcases m3 with m3| ⟨b',o',e,_,_,m⟩
         · exact absurd m3 c7
         · simp only[Option.some.injEq,Addr.mk.injEq,and_true] at e
           obtain⟨rfl,rfl⟩:=e
           exact m
       · rw[if_neg Mr];exact oH
   · refine⟨(0,0),?_⟩
     have h0:=hx (0,0)
     simp only[ak] at h0 ⊢
     obtain⟨h1,vs,rfl,h2⟩:=h0
     refine⟨?_,vs,rfl,?_⟩
     · rw[List.all_eq_true] at h1 ⊢
       intro y hy
       obtain⟨i,hi⟩:=List.mem_iff_getElem?.1 hy
       rw[List.getElem?_modify,Option.map_eq_map,Option.map_eq_some_iff] at hi
       obtain⟨z,hz,rfl⟩:=hi
       have I3:=h1 z (List.mem_of_getElem? hz)
       split
       · rw[ra];exact I3
       · exact I3
     · refine aj.uV (by rw[List.length_modify];exact h2.length) fun i y u' hy BD=> ?_
       rw[List.getElem?_modify,Option.map_eq_map,Option.map_eq_some_iff] at hy
       obtain⟨z,hz,rfl⟩:=hy
       obtain⟨u2,KO,oH⟩:=h2.get hz
       rw[BD] at KO;injection KO with KO;subst KO
       by_cases Mr:c=i
       · subst Mr
         rw[if_pos rfl]
         unfold uF
         split
         · rename_i sz xs
           have CI:xs=[]:=Classical.byContradiction fun c7=>hc ⟨sz,xs,hz,c7⟩
           subst CI
           simp only[ak] at oH ⊢
           obtain⟨k0,S7,a,cap,us,rfl,k1,k2,_⟩:=oH
           exact⟨k0,S7,a,cap,us,rfl,k1,k2,.inl trivial⟩
         · exact oH
       · rw[if_neg Mr];exact oH
 · exact⟨(0,0),hx (0,0)⟩
theorem fQ (p:Nat×Nat) (args:List V): (dp p args).length=args.length:=by simp[dp,dE]
theorem wx {p:Nat×Nat} {args:List V} (h:V.an args=true):V.an (dp p args)=true:=by
 refine ph fun x hx=> ?_
 obtain⟨i,hi⟩:=List.mem_iff_getElem?.1 hx
 have he:V.an (V.erases args)=true:=by rw[cE];exact h
 rw[dp,List.getElem?_modify,Option.map_eq_map,Option.map_eq_some_iff] at hi
 obtain⟨z,hz,rfl⟩:=hi
 have I3:=iE he (List.mem_of_getElem? hz)
 split
 · unfold zk
   split
   · rename_i cs
     simp only[V.aC] at I3 ⊢
     refine ph fun y hy=> ?_
     obtain⟨j,hj⟩:=List.mem_iff_getElem?.1 hy
     rw[List.getElem?_modify,Option.map_eq_map,Option.map_eq_some_iff] at hj
     obtain⟨u,hu,rfl⟩:=hj
     have BD:=iE I3 (List.mem_of_getElem? hu)
     split
     · exact B9 BD
     · exact BD
   · exact I3
 · exact I3
theorem xr {F:FuncId} {p:Nat×Nat} {args:List V} {res:fL} (hp:V.an args=true) (h:cY X F (dp p args) res):cY X F args ⟨res.val.erase,[]⟩:=by
 intro B K w φ0 vals BT hv ho
 have hpm:=wx (p:=p) hp
 have hO: (enter args).O=fun _=>bJ:=by rw[fR hp]
 have hOm: (enter (dp p args)).O=fun _=>bJ:=by rw[fR hpm]
 have hT: ∀t a,args[t]? =some a→(enter args).T t=a:=fun t a ha=>by rw[fR hp];simp[List.getD,ha]
 have hTm: ∀t a,(dp p args)[t]? =some a→(enter (dp p args)).T t=a:=fun t a ha=>by rw[fR hpm];simp[List.getD,ha]
 have each: ∀K' t (x:V) v,(V.erases args)[t]? =some x→vals[t]? =some v→ak ⟨X,B,K'⟩ ⟨w,φ0,fun _=>bJ⟩ x v:=fun K' t x v hx A6=>by
   rw[mm,List.getElem?_map,Option.map_eq_some_iff] at hx
   obtain⟨y,hy,rfl⟩:=hx
   have:=hv t v A6
   rw[hT t y hy,hO] at this
   have:=xq (K':=K') this
   exact this
 obtain⟨K',hK⟩: ∃K',∀x v,(V.erases args)[p.1]? =some x→vals[p.1]? =some v→ak ⟨X,B,K'⟩ ⟨w,φ0,fun _=>bJ⟩ (zk p.2 x) v:=by
   cases hx: (V.erases args)[p.1]? with
   | none=>exact⟨(0,0),fun x v h1=>by simp at h1⟩
   | some x=>
     cases hu:vals[p.1]? with
     | none=>exact⟨(0,0),fun x v _ h1=>by simp at h1⟩
     | some u=>
       obtain⟨K',hK⟩:=E4 (X:=X) (B:=B) (μ:=⟨w,φ0,fun _=>bJ⟩) p.2 (fun K'=>each K' p.1 x u hx hu)
       exact⟨K',fun y v h1 h2=>by injection h1 with h1;injection h2 with h2;subst h1;subst h2;exact hK⟩
 have hU:=h B K' w φ0 vals (by rw[fQ];exact BT) (fun t v A6=>by
   rw[hOm]
   have bl:t< (dp p args).length:=by rw[fQ,←BT];exact(List.getElem?_eq_some_iff.1 A6).1
   obtain⟨y,nF⟩: ∃y,(dp p args)[t]? =some y:=⟨_,List.getElem?_eq_getElem bl⟩
   rw[hTm t _ nF]
   have HP:=nF
   simp only[dp] at HP
   rw[List.getElem?_modify,Option.map_eq_map,Option.map_eq_some_iff] at HP
   obtain⟨z,hz,w5⟩:=HP
   rw[←w5]
   split
   · rename_i e
     subst e
     exact hK z v hz A6
   · exact each K' t z v hz A6) (by
   rw[hOm]
   rw[hO] at ho
   have:=tk (K':=K') ho
   exact this)
 rw[hOm] at hU
 rw[hO]
 have post: ∀val w',(∃φ' T' O' v0 refs,Le ⟨w,φ0,fun _=>bJ⟩ ⟨w',φ',O'⟩∧bu ⟨X,B,K'⟩ ⟨w',φ',O'⟩∧
     ak ⟨X,B,K'⟩ ⟨w',φ',O'⟩ v0 val∧dt (dp p args).length ⟨T',O'⟩ v0 res.val refs∧distinct refs=true∧bW O' 0 (dp p args)=some res.outs)→
     ∃φ' T' O' v0 refs,Le ⟨w,φ0,fun _=>bJ⟩ ⟨w',φ',O'⟩∧bu ⟨X,B,K⟩ ⟨w',φ',O'⟩∧
     ak ⟨X,B,K⟩ ⟨w',φ',O'⟩ v0 val∧dt args.length ⟨T',O'⟩ v0 (fL.mk res.val.erase []).val refs∧distinct refs=true∧bW O' 0 args=some (fL.mk res.val.erase []).outs:=by
   rintro val w' ⟨φ',T',O',v0,refs,k1,k2,k3,k4,k5,k6⟩
   rw[fQ] at k4
   refine⟨φ',T',dB O',v0.erase,refs,?_,tk k2,xq k3,k4.erase,k5,fW hp⟩
   exact⟨k1.size,fun b hb hn=> ⟨(k1.cD b hb hn).1,fun h'=> (k1.cD b hb hn).2 (mq.1 h')⟩,k1.gen,k1.row,k1.os,k1.output,k1.tape,k1.frozen⟩
 unfold yz at hU ⊢
 split at hU
 · exact post _ _ hU
 · refine Calls.mono hU fun e w' he=> ?_
   cases e with
   | returned v=>exact post _ _ he
   | panicked c=>exact he.elim
   | outgrown=>exact he.elim
 · exact hU.elim
end
end Go.AM
namespace Go.AM
open Go Go.RowKit
structure vu (X:TrEnv) (E:Env):Prop where
 inj: ∀t1 t2 k,X.jb t1=some k→X.jb t2=some k→t1=t2
 mixed:X.P.follows .mixedOrders=true
 fn: ∀f af F,E.fn f=some af→X.jR F=some f→ ∃fn h c,X.P.funcs[F]? =some fn∧(fn.name== "runtime.NumGoroutine")=false∧fn.body=some c∧az X h fn=some af∧af.nparams≤fn.ntmps
 ext: ∀f as res F,E.ext f as=some res→X.jR F=some f→cY X F as res
 iter: ∀g F caps xs,E.iter g caps=some xs→X.jR F=some g→ ∀ (B:Nat→Prop) (K:Nat×Nat) (μ:Mu) (lb:Array Value),aj ⟨X,B,K⟩ μ caps lb.toList→bu ⟨X,B,K⟩ μ→ue ⟨X,B,K⟩ μ F lb xs
 hyb: ∀f h F,E.hyb f=some h→X.jR F=some f→ ∀C:bj,(∀f F as res,X.jR F=some f→C f as=some res→cY X F as res)→ ∀as res,h C as=some res→cY X F as res
section
variable {X:Ctx} {T:Nat→V} {a:Go.Act} {μ:Mu}
theorem yD (  hr:Rel X T a μ) {r:ResultVar} {r':qh} (aR:qK X r=some r') {v:V} (h:eP ⟨T,μ.O⟩ r'=some v):
   ∃val,((match r with| .tmp t=>pure (a.tmps.getD t undef) | .cell c t=>do loadVar t (←asAddr (a.tmps.getD c undef)):Sem Value)).run X.P μ.w= .ok val μ.w∧ak X μ v val:=by
 cases r with
 | tmp t=>
   simp[qK] at aR;subst aR
   simp only[eP,Option.some.injEq] at h;subst h
   exact⟨_,rfl,hr.tmps t⟩
 | cell c t=>
   simp only[qK] at aR
   split at aR
   · rename_i g sz hg hn
     injection aR with aR;subst aR
     simp only[eP] at h
     split at h
     · rename_i r gn idx off e
       split at h
       · rename_i es bR
         split at h
         · rename_i cu
           split at h
           · rename_i el oO
             have hx:=hr.tmps c
             rw[e] at hx
             simp only[ak] at hx
             obtain⟨p,Mn,_,cK⟩:=hx
             obtain⟨yy,cK⟩:=cK cu
             obtain⟨xv,sY,_,jU⟩:=zK hr.bg bR oO yy
             obtain⟨val,hl,bU⟩:=ou sY h hg hn jU
             refine⟨val,?_,bU⟩
             rw[cK] at Mn
             show (do loadVar t (←asAddr (a.tmps.getD c undef)):Sem Value).run X.P μ.w=_
             rw[Mn]
             simpa [Sem.run_bind,asAddr,Sem.run] using hl
           · simp at h
         · simp at h
       · simp at h
     · simp at h
   · simp at aR
theorem re (hr:Rel X T a μ): ∀ {rs:List ResultVar} {rs':List qh} {vs:List V},jy X rs=some rs'→cW ⟨T,μ.O⟩ rs'=some vs→
   ∃vals,(rs.mapM (fun r=> (match r with| .tmp t=>pure (a.tmps.getD t undef) | .cell c t=>do loadVar t (←asAddr (a.tmps.getD c undef)):Sem Value))).run X.P μ.w= .ok vals μ.w∧aj X μ vs vals
 | [],rs',vs,h1,h2=>by
   simp[jy] at h1;subst h1
   simp[cW] at h2;subst h2
   exact⟨[],by simp[Sem.run],by simp[aj]⟩
 | r::rs,rs',vs,h1,h2=>by
   simp only[jy] at h1
   split at h1
   · rename_i r1 RR k1 k2
     injection h1 with h1;subst h1
     simp only[cW] at h2
     split at h2
     · rename_i v vs1 m1 m2
       injection h2 with h2;subst h2
       obtain⟨val,n1,n2⟩:=yD hr k1 m1
       obtain⟨vals,p1,p2⟩:=re hr k2 m2
       refine⟨val::vals,?_,by simp only[aj];exact⟨n2,p2⟩⟩
       simp only[List.mapM_cons,Sem.run_bind,n1,Result.andThen,p1]
       rfl
     · simp at h2
   · simp at h1
theorem wy (hr:Rel X T a μ) {fn:Func} {rs':List qh} {vs:List V} (h1:jy X fn.results.toList=some rs') (h2:cW ⟨T,μ.O⟩ rs'=some vs):
  ∃vals,(results fn a.tmps).run X.P μ.w= .ok (match vals with| [v]=>v| vs=> .tuple vs.toArray) μ.w∧aj X μ vs vals:=by
 obtain⟨vals,k1,k2⟩:=re hr h1 h2
 refine⟨vals,?_,k2⟩
 have hm: (fn.results.mapM (fun r=> (match r with| .tmp t=>pure (a.tmps.getD t undef) | .cell c t=>do loadVar t (←asAddr (a.tmps.getD c undef)):Sem Value))).run X.P μ.w= .ok vals.toArray μ.w:=by
  rw[Array.mapM_eq_mapM_toList]
  show Sem.run X.P (_ >>=fun l=>pure (List.toArray l)) _=_
  rw[Sem.run_bind,k1]
  rfl
 unfold results
 rw[Sem.run_bind]
 refine(congrArg (fun r=>Result.andThen r (fun vs w'=>Sem.run X.P (pure (if h:vs.size=1 then vs[0] else Value.tuple vs)) w')) hm).trans ?_
 match vals with
 | []=>rfl
 | [v]=>rfl
 | _::_::_=>rfl
end
section
variable {X:TrEnv} {E:Env}
theorem E5 {  af:aF} {args:List V} {σ:St} {res:fL} (h:leave af args σ=some res):
   ∃vs,cW σ af.results=some vs∧bW σ.O 0 args=some res.outs∧ ∃refs,distinct refs=true∧
     ∀v0,v0=(match vs with| [v]=>v| vs=> .tuple vs)→dt args.length σ v0 res.val refs:=by
 unfold leave at h
 split at h
 · rename_i vs outs h1 h2
   refine⟨vs,h1,?_⟩
   split at h
   · rename_i v rs hx
     split at h
     · rename_i hd
       injection h with h;subst h
       refine⟨h2,rs,hd,?_⟩
       rintro v0 rfl
       match vs,hx with
       | [u],hx=>
         simp only[cm] at hx
         split at hx
         · rename_i c' r cN rs' k1 k2
           simp only[Option.some.injEq,Prod.mk.injEq,List.cons.injEq] at hx k2
           obtain⟨⟨rfl,rfl⟩,rfl⟩:=hx
           obtain⟨_,rfl⟩:=k2
           simpa using dt.one k1
         · simp at hx
       | [],hx=>simp[cm] at hx
       | _::_::_,hx=>
         simp only[cm] at hx
         split at hx
         · rename_i k1 k2
           split at k2
           · simp only[Option.some.injEq,Prod.mk.injEq] at hx k2
             obtain⟨e1,_⟩:=k2
             subst e1
             simp at hx
           · simp at k2
         · simp at hx
     · simp at h
   · rename_i vs' rs XZ hx
     split at h
     · rename_i hd
       injection h with h;subst h
       refine⟨h2,rs,hd,?_⟩
       rintro v0 rfl
       match vs,hx with
       | [u],hx=>
         exfalso
         simp only[cm] at hx
         split at hx
         · rename_i c' r cN rs' k1 k2
           simp only[Option.some.injEq,Prod.mk.injEq] at hx k2
           obtain⟨rfl,rfl⟩:=hx
           obtain⟨rfl,_⟩:=k2
           exact XZ _ rfl
         · simp at hx
       | [],hx=>exact .many hx
       | _::_::_,hx=>exact .many hx
     · simp at h
   · simp at h
 · simp at h
theorem tq {P:Program} {fn:Func} {tmps:Array Value} {R:Ending→World→Prop} {n:Fp} (Pw:World→Prop) (xa: ∀w D,n.fl≤D→w.heap[D]? =some (.deferred (some []))→Pw w→Pw (w.putObj D (.deferred none)))
   (hR: ∀w,Pw w→ ∃v,(results fn tmps).run P w= .ok v w∧R (.returned v) w) {ds:List Deferred} {w:World} (hm:Marks n w ds) (hw:Pw w):LeavesInM (Fr none) 0 P fn tmps R ds .returning w:=by
 obtain⟨_,Ds,rfl,I0,hDs⟩:=hm
 revert w
 induction Ds with
 | nil=>intro w hw _ _;exact hR w hw
 | cons D Ds ih=>
   intro w hw hf hm
   obtain⟨h1,h2⟩:=hm D (by simp)
   rw[List.nodup_cons] at I0
   refine⟨by simp,.inl ⟨D,w.putObj D (.deferred none),rfl,run_takeDeferred h2,?_⟩⟩
   refine ih I0.2 (xa w D h1 h2 hw) ⟨by simpa [World.putObj] using hf.1,fun l hl=> ?_⟩ fun D' hD'=> ⟨(hm D' (by simp[hD'])).1,?_⟩
   · obtain⟨L,k⟩:=hf.2 l hl
     exact⟨L,(World.putObj_heap_other (fun e=>by rw[e,h2] at k;simp at k)).trans k⟩
   · rw[World.putObj_heap_other (fun e=>I0.1 (by rw[←e];exact hD'))]
     exact(hm D' (by simp[hD'])).2
theorem mr (hE:vu X E) {n:Nat} (hH: ∀m,m<n→ ∀ (B:Nat→Prop) (K:Nat×Nat),nG ⟨X,B,K⟩ E (dm E (exec E m))) {f:Nat} {af:aF} {F:FuncId} (hf:E.fn f=some af) (hF:X.jR F=some f)
   {args:List V} {res:fL} {e:bd} {σ:St} (hlen:args.length=af.nparams) (hx:exec E n af.body (enter args)=some (e,σ)) (he:e= .normal∨e= .ret) (hl:leave af args σ=some res):cY X F args res:=by
 obtain⟨fn,h,c,tZ,tu,lA,aR,hle⟩:=hE.fn f af F hf hF
 intro B K w φ0 vals BT hv ho
 have X1: (callFunc F vals.toArray).run X.P w= .ok (.enter F vals.toArray) w:=by
   have RT: (fn.name== "runtime.NumGoroutine")=false:=tu
   simp[callFunc,Sem.run_bind,program,Sem.run,tZ,RT,lA]
   simpa using tu
 rw[X1]
 unfold az at aR
 rw[lA] at aR
 simp only at aR
 split at aR
 · rename_i ac rs hc hrs
   injection aR with aR
   subst aR
   simp only[yz]
   refine(callsIn_wide (n:=0)).1 (callsIn_of_wp_marks (F:=Fr none) tZ lA trivial ?_ rfl)
   have cH:vals.toArray.size≤fn.ntmps:=by simp[BT,hlen];exact hle
   have lB:jh ⟨X,B,K⟩ ⟨w,φ0,(enter args).O⟩ ⟨fn.ntmps,w.heap.size,none⟩ (enter args) {tmps:=vals.toArray++Array.replicate (fn.ntmps - vals.toArray.size) undef,defers:=[]} w:=by
    refine⟨Marks.nil (Nat.le_refl _) (by simp),by simp at cH ⊢;omega,φ0,⟨fun t=> ?_,ho⟩,Le.refl _⟩
    by_cases ht:t<vals.length
    · have e1: (vals.toArray++Array.replicate (fn.ntmps - vals.toArray.size) undef).getD t undef=vals[t]:=by
       simp[Array.getElem?_append,ht]
      rw[e1]
      exact hv t _ (List.getElem?_eq_getElem ht)
    · have e1: (vals.toArray++Array.replicate (fn.ntmps - vals.toArray.size) undef).getD t undef=undef:=by
       simp[Array.getElem?_append,ht,Array.getElem?_replicate]
       split<;>rfl
      have e2: (enter args).T t=dX:=by
       have:args[t]? =none:=List.getElem?_eq_none (by omega)
       simp[enter,this]
      rw[e1,e2]
      exact sg
   refine wpIn_mono (B4 (X:=⟨X,B,K⟩) hE.mixed (fun g F caps xs h1 h2 μ lb h3 h4=>hE.iter g F caps xs h1 h2 B K μ lb h3 h4) (h:={h with n:=fn.ntmps}) n (fun m hm=>hH m hm B K) rfl c ac _ _ e _ w hc hx lB) fun ex a' w' hq=> ?_
   obtain⟨rfl,jv,_,φ',hr,qY⟩:=hq
   obtain⟨vs,l1,l2,refs,l3,l4⟩:=E5 hl
   have fin:LeavesInM (Fr none) 0 X.P fn a'.tmps (fun
      | .returned val,w'=> ∃φ' T' O' v0 refs,Le ⟨w,φ0,(enter args).O⟩ ⟨w',φ',O'⟩∧bu ⟨X,B,K⟩ ⟨w',φ',O'⟩∧ak ⟨X,B,K⟩ ⟨w',φ',O'⟩ v0 val∧dt args.length ⟨T',O'⟩ v0 res.val refs∧distinct refs=true∧bW O' 0 args=some res.outs
      | _,_=>False) a'.defers .returning w':=by
    refine tq (fun w'=>Rel ⟨X,B,K⟩ σ.T a' ⟨w',φ',σ.O⟩∧Le ⟨w,φ0,(enter args).O⟩ ⟨w',φ',σ.O⟩) (fun w1 D h1 h2 ⟨hr,hle⟩=> ⟨⟨fun t=>ak.cz (jY (μ:=⟨w1,φ',σ.O⟩) h2 rfl rfl) (hr.tmps t),xk hr.bg h2⟩,B1 hle h1⟩) (fun w' ⟨hr,qY⟩=> ?_) jv ⟨hr,qY⟩
    obtain⟨X2,r1,r2⟩:=wy hr hrs l1
    refine⟨_,r1,φ',σ.T,σ.O,_,refs,qY,hr.bg,?_,l4 _ rfl,l3,l2⟩
    match vs,X2,r2 with
    | [],[],r2=>simp only[ak];exact⟨_,rfl,by simpa using r2⟩
    | [v],[u],r2=>simp only[aj] at r2;exact r2.1
    | _::_::_,_::_::_,r2=>simp only[ak];exact⟨_,rfl,by simpa using r2⟩
    | [],_::_,r2=>simp[aj] at r2
    | _::_,[],r2=>simp[aj] at r2
    | [_],_::_::_,r2=>simp[aj] at r2
    | _::_::_,[_],r2=>simp[aj] at r2
   rcases he with rfl| rfl
   · exact fin
   · exact fin
 · simp at aR
theorem vv (    hE:vu X E): ∀ (n:Nat) (f:Nat) (F:FuncId) (args:List V) (res:fL),X.jR F=some f→call E n f args=some res→cY X F args res:=by
 intro n
 induction n using Nat.strongRecOn with
 | _ n ih=>
   have low: ∀ (f:Nat) (F:FuncId) (args:List V) (res:fL),X.jR F=some f→kE E (exec E n) f args=some res→cY X F args res:= ?low
   · intro f F args res hF h
     unfold call dm at h
     split at h
     · rename_i g hg
       exact hE.hyb f g F hg hF _ low args res h
     · exact low f F args res hF h
   intro f F args res hF h
   unfold kE at h
   split at h
   · rename_i r he
     injection h with h;subst h
     exact hE.ext f args r F he hF
   · split at h
     · rename_i af hf
       split at h
       · rename_i hlen
         have hH: ∀m,m<n→ ∀ (B:Nat→Prop) (K:Nat×Nat),nG ⟨X,B,K⟩ E (dm E (exec E m)):=fun m hm B K=>B8 hE.inj fun f F as res h1 h2=>ih m hm f F as res h1 h2
         split at h
         · split at h
           · rename_i σ hx;exact mr hE hH hf hF hlen hx (.inl rfl) h
           · rename_i σ hx;exact mr hE hH hf hF hlen hx (.inr rfl) h
           · simp at h
         · rename_i p hp
           split at h
           · rename_i xu
             have s8: (dp p args).length=af.nparams:=by rw[fQ];exact hlen
             split at h
             · rename_i σ hx
               rw[Option.map_eq_some_iff] at h
               obtain⟨r0,h,rfl⟩:=h
               exact xr xu (mr hE hH hf hF s8 hx (.inl rfl) h)
             · rename_i σ hx
               rw[Option.map_eq_some_iff] at h
               obtain⟨r0,h,rfl⟩:=h
               exact xr xu (mr hE hH hf hF s8 hx (.inr rfl) h)
             · simp at h
           · simp at h
       · simp at h
     · simp at h
end
end Go.AM
namespace Go.AM
open Go Go.RowKit
section
variable {X:TrEnv} {F:FuncId} {fn:Func}
theorem rf {args:List V} (h:V.an args=true): (enter args).O=fun _=>bJ:=by rw[fR h]
theorem Ca (tZ:X.P.funcs[F]? =some fn) (tu: (fn.name== "runtime.NumGoroutine")=false) (hb:fn.body.isNone=true) (hn:Extern.findNext fn=none) (he:Extern.find fn=some Extern.MathSqrt.sqrt)
   {as:List V} {res:fL} (h:y6 as=some res):cY X F as res:=by
 unfold y6 at h
 split at h
 · rename_i b
   split at h
   · rename_i r hr
     injection h with h;subst h
     intro B K w φ0 vals hl hv ho
     match vals,hl with
     | [v],_=>
       have h0:=hv 0 v rfl
       have e0: (enter [V.float b]).T 0= .float b:=rfl
       rw[e0] at h0
       simp only[ak] at h0
       subst h0
       rw[run_callFunc_extern tZ tu hb hn he]
       have ah: (Extern.MathSqrt.sqrt #[.float .f64 b]).run X.P w= .ok (.float .f64 r) w:=by
         have e:Extern.MathSqrt.sqrt #[.float .f64 b]=(match FloatKind.f64.format.sqrt b with
          | some r=>pure (.float .f64 r)
          | none=>do pure (.float .f64 (←choose (.nanBits .f64 b b)))):=rfl
         rw[e,hr];rfl
       have e1: ([Value.float .f64 b]:List Value).toArray= #[.float .f64 b]:=rfl
       rw[e1,ah]
       simp only[Result.andThen,yz]
       refine⟨φ0,fun _=>dX,_,.float r,[],Le.refl _,ho,by simp[ak],.one (by simp[cL,V.aC]),rfl,rfl⟩
   · simp at h
 · simp at h
def RU:Env:={fn:=fun _=>none,ext:=fun _ _=>none}
def C00:bj:=fun _ _=>none
def strip (o:bD):bD:={o with pre:=[]}
structure iz (X:TrEnv) (fn:Func) (sz kb:Nat):Prop where
 body: ∃i0 i1 i2 i3 HQ RV HR HS,fn.body=some (.seq (.region i0 HQ false) (.seq (.seq (.region i1 RV false) (.cond (.tmp 4) (.seq (.region i2 HR false) .ret) .skip)) (.seq (.region i3 HS false) .ret)))∧
  (fN X ({n:=fn.ntmps}:Hints) HQ HQ.toList).map (List.map strip)=some [⟨some 2,.move (.const .nils),none,[]⟩]∧
  (fN X ({n:=fn.ntmps}:Hints) HR HR.toList).map (List.map strip)=some [⟨some 2,.move (.const .nils),none,[]⟩]∧
  (∃zero,aS zero sz=true∧0 <sz∧(fN X ({n:=fn.ntmps}:Hints) HS HS.toList).map (List.map strip)=some [⟨some 5,.buildSlice 96 sz zero 0 [],none,[]⟩,⟨some 6,.move (.tmp 0),none,[]⟩,⟨some 7,.append 128 sz kb (.tmp 5) (.tmp 6),none,[]⟩,⟨some 2,.move (.tmp 7),none,[]⟩])∧
  (∃o1 o2 t e,RV= #[o1,o2]∧(np X ({n:=fn.ntmps}:Hints) #[o1,o2] o1).map strip=some ⟨some 3,.move (.tmp 0),none,[]⟩∧o2.dst=some 4∧o2.guard=none∧o2.op= .binOp .eql t (.tmp 3) (.const (.slice none 0 0)) t∧X.P.underlying t=some (.slice e))
 res:fn.results= #[.tmp 2]
 tmps:8≤fn.ntmps
theorem KP {Y:Ctx} (mP: ∀t1 t2 k,Y.jb t1=some k→Y.jb t2=some k→t1=t2):nG Y RU C00:=
 B8 mP fun _ _ _ _ _ h=>by simp[C00] at h
theorem RW {Y:Ctx} (mP: ∀t1 t2 k,Y.jb t1=some k→Y.jb t2=some k→t1=t2) (n:Nat):nG Y RU (call RU n):=
 B8 mP fun _ _ _ _ _ h=>by simp[call,dm,kE,RU] at h
theorem iV (mP: ∀t1 t2 k,X.jb t1=some k→X.jb t2=some k→t1=t2) (tZ:X.P.funcs[F]? =some fn) (tu: (fn.name== "runtime.NumGoroutine")=false) {sz kb:Nat} (hsh:iz X fn sz kb)
   {as:List V} {res:fL} (h:fi sz kb as=some res):cY X F as res:=by
 obtain⟨⟨i0,i1,i2,i3,HQ,RV,HR,HS,lA,h0,h2,⟨zero,sb,w5,h3⟩,o1,o2,t,e,rfl,SW,zH,HP,X3,hty⟩,mS,htm⟩:=hsh
 rw[Option.map_eq_some_iff] at h0 h2 h3 SW
 obtain⟨as0,h0,k0⟩:=h0
 obtain⟨as2,h2,k2⟩:=h2
 obtain⟨as3,h3,k3⟩:=h3
 obtain⟨ao1,SW,k1⟩:=SW
 have S7:as0.map (fun o=> {o with pre:=[]})=_:=k0
 have k2':as2.map (fun o=> {o with pre:=[]})=_:=k2
 have k3':as3.map (fun o=> {o with pre:=[]})=_:=k3
 obtain⟨a0,xs,rfl,qV,yp,rfl⟩: ∃a0 xs,as=[a0]∧(a0= .lit sz xs∨a0= .nils∧xs=[])∧xs.length≤kb∧res=⟨.own sz xs,[]⟩:=by
   unfold fi at h
   split at h
   · injection h with h;exact⟨_,[],rfl,.inr ⟨rfl,rfl⟩,by simp,h.symm⟩
   · rename_i sz' xs
     split at h
     · rename_i he;injection h with h;obtain⟨rfl,he⟩:=he;exact⟨_,xs,rfl,.inl rfl,he,h.symm⟩
     · simp at h
   · simp at h
 have xu:V.an [a0]=true:=by rcases qV with rfl| ⟨rfl,rfl⟩ <;>rfl
 intro B K w φ0 vals BT hv ho
 have hO: (enter [a0]).O=fun _=>bJ:=rf xu
 have hT0: (enter [a0]).T 0=a0:=by rw[fR xu];rfl
 have X1: (callFunc F vals.toArray).run X.P w= .ok (.enter F vals.toArray) w:=by
   simp[callFunc,Sem.run_bind,program,Sem.run,tZ,lA]
   simpa using tu
 rw[X1]
 simp only[yz]
 refine(callsIn_wide (n:=0)).1 (callsIn_of_wp_marks (F:=Fr none) tZ lA trivial ?_ rfl)
 have cH:vals.toArray.size≤fn.ntmps:=by simp[BT];omega
 have lB:jh ⟨X,B,K⟩ ⟨w,φ0,(enter [a0]).O⟩ ⟨fn.ntmps,w.heap.size,none⟩ (enter [a0]) {tmps:=vals.toArray++Array.replicate (fn.ntmps - vals.toArray.size) undef,defers:=[]} w:=by
   refine⟨Marks.nil (Nat.le_refl _) (by simp),by simp at cH ⊢;omega,φ0,⟨fun t=> ?_,ho⟩,Le.refl _⟩
   by_cases ht:t<vals.length
   · have e1: (vals.toArray++Array.replicate (fn.ntmps - vals.toArray.size) undef).getD t undef=vals[t]:=by
       simp[Array.getElem?_append,ht]
     rw[e1]
     exact hv t _ (List.getElem?_eq_getElem ht)
   · have e1: (vals.toArray++Array.replicate (fn.ntmps - vals.toArray.size) undef).getD t undef=undef:=by
       simp[Array.getElem?_append,ht,Array.getElem?_replicate]
       split<;>rfl
     have e2: (enter [a0]).T t=dX:=by
       have: [a0][t]? =none:=List.getElem?_eq_none (by omega)
       simp[enter,this]
     rw[e1,e2]
     exact sg
 have H:=KP (Y:=⟨X,B,K⟩) mP
 refine wpIn_seq (wpIn_mono (wpIn_region (Q:=fun ex a w'=>ex= .normal∧jh ⟨X,B,K⟩ ⟨w,φ0,(enter [a0]).O⟩ ⟨fn.ntmps,w.heap.size,none⟩ ((enter [a0]).put (some 2) .nils) a w') ?_) ?_)
 · rw[List.range_eq_range']
   refine eJ H (h:=({n:=fn.ntmps}:Hints)) rfl h0 HQ.size 0 (by omega) lB (by rw[List.drop_zero,S7];rfl) fun a' w' kQ=> ⟨rfl,kQ⟩
 rintro ex a1 w1 ⟨rfl,tI⟩
 refine wpIn_seq (wpIn_seq (wpIn_region ?_))
 have abZ:List.range (#[o1,o2]:Array Oper).size=[0,1]:=rfl
 rw[abZ,wpOpsIn_cons]
 have eT0: ((enter [a0]).put (some 2) .nils).T 0=a0:=hT0
 have X4:eM RU C00 ao1 ((enter [a0]).put (some 2) .nils)=some (((enter [a0]).put (some 2) .nils).put (some 3) a0):=by
   have hs:eM RU C00 (strip ao1) ((enter [a0]).put (some 2) .nils)=some (((enter [a0]).put (some 2) .nils).put (some 3) a0):=by
     rw[k1]
     show some (((enter [a0]).put (some 2) .nils).put (some 3) (((enter [a0]).put (some 2) .nils).T 0))=_
     rw[eT0]
   exact hs
 refine pH H (h:=({n:=fn.ntmps}:Hints)) (o:=o1) rfl SW rfl tI X4 fun a2 w2 yZ=> ?_
 generalize hσ2: ((enter [a0]).put (some 2) .nils).put (some 3) a0=σ2 at yZ
 have e23:σ2.T 3=a0:=by rw[←hσ2];rfl
 have e20:σ2.T 0=a0:=by rw[←hσ2];exact hT0
 have e2O:σ2.O=fun _=>bJ:=by rw[←hσ2];exact hO
 rw[wpOpsIn_cons]
 obtain⟨HB,X5,φ2,oH,RI⟩:=yZ
 have xZ:=oH.tmps 3
 rw[e23] at xZ
 obtain⟨ad,n,cap,yE⟩: ∃ad n cap,a2.tmps.getD 3 undef= .slice ad n cap:=by
   rcases qV with rfl| ⟨rfl,_⟩
   · simp only[ak] at xZ
     obtain⟨_,_,a,c,_,h,_⟩:=xZ
     exact⟨_,_,_,h⟩
   · simp only[ak] at xZ
     obtain⟨a,h⟩:=xZ
     exact⟨_,_,_,h⟩
 have ve:ad.isNone=true→xs=[]:=by
   intro hn
   rcases qV with rfl| ⟨rfl,h9⟩
   · simp only[ak] at xZ
     obtain⟨_,_,a,c,_,h,_,_,h'⟩:=xZ
     rw[yE] at h
     injection h with h _ _
     rcases h' with h'| ⟨b,o,h',_⟩
     · exact h'
     · rw[h,h'] at hn;simp at hn
   · exact h9
 have heq: (Op.equal t (.slice ad n cap) (.slice none 0 0)).run X.P w2= .ok ad.isNone w2:=run_equal_slice_nil w2 t e ad n cap hty
 have ku: (execOp a2.eval o2).run X.P w2= .ok (.value (.bool ad.isNone)) w2:=by
   simp only[execOp,X3]
   refine cj ?_
   have ev:a2.eval (.tmp 3)= .slice ad n cap:=by simpa [Go.Act.eval] using yE
   have fg:a2.eval (.const (.slice none 0 0))= .slice none 0 0:=rfl
   simp[eqGuard,ev,fg,Go.binOp,Sem.run_bind,heq]
 have rB: (#[o1,o2]:Array Oper)[1]? =some o2:=rfl
 simp only[wpOpIn,rB]
 rw[if_pos (by simp[Region.wanted,HP])]
 refine ud (by rw[X3];simp) ?_
 unfold Oper.wp
 rw[ku,Oper.upon_value]
 simp only[wpOpsIn]
 have C2:jh ⟨X,B,K⟩ ⟨w,φ0,(enter [a0]).O⟩ ⟨fn.ntmps,w.heap.size,none⟩ (σ2.put (some 4) (.bool ad.isNone)) (a2.put o2.dst (.bool ad.isNone)) w2:=by
   rw[zH]
   refine⟨by rw[put_defers];exact HB,by rw[lr];exact X5,φ2,?_,?_⟩
   · exact ox oH (Le.refl _) oH.bg (by simp[ak]) (by simp;rw[X5];simp;omega) σ2.O
   · exact RI
 generalize a2.put o2.dst (.bool ad.isNone)=a3 at C2 ⊢
 have FQ:a3.eval (.tmp 4)= .bool ad.isNone:=vr (c':= .tmp 4) C2 rfl rfl
 have CI:V.an xs=true∧xs.all (aS · sz)=true:=by
   rcases qV with rfl| ⟨rfl,h9⟩
   · simp only[ak] at xZ
     obtain⟨k1,k2,a,c,vs,_,_,k3,k4⟩:=xZ
     refine⟨k1,?_⟩
     rcases k4 with rfl| ⟨b,o,_,_,_,k5⟩
     · rfl
     · rw[List.all_eq_true] at k2 ⊢
       intro x hx
       obtain⟨i,hi⟩:=List.mem_iff_getElem?.1 hx
       obtain⟨v,hv1,Dg⟩:=aj.get k3 hi
       have:=(k5 i v hv1).1
       rw[Dg.dY (k2 x hx)] at this
       simp[aS,this,k2 x hx]
   · subst h9;exact⟨rfl,rfl⟩
 have X6: ∀ (a':Go.Act) (w':World) (O':Nat→Obj),Marks ⟨fn.ntmps,w.heap.size,none⟩ w' a'.defers→(∃φ',Le ⟨w,φ0,(enter [a0]).O⟩ ⟨w',φ',O'⟩∧bu ⟨X,B,K⟩ ⟨w',φ',O'⟩∧ ∃r g,1≤r∧ak ⟨X,B,K⟩ ⟨w',φ',O'⟩ (.sl r g 0 xs.length) (a'.tmps.getD 2 undef)∧O' r=⟨g,sz,true,false,some xs⟩)→
     bodyPostM (Fr none) 0 X.P fn (fun| .returned val,w'=> ∃φ' T' O' v0 refs,Le ⟨w,φ0,(enter [a0]).O⟩ ⟨w',φ',O'⟩∧bu ⟨X,B,K⟩ ⟨w',φ',O'⟩∧ak ⟨X,B,K⟩ ⟨w',φ',O'⟩ v0 val∧dt [a0].length ⟨T',O'⟩ v0 (fL.mk (.own sz xs) []).val refs∧distinct refs=true∧bW O' 0 [a0]=some (fL.mk (.own sz xs) []).outs| _,_=>False) .ret a' w':=by
   rintro a' w' O' hd ⟨φ',k1,k2,r,g,k3,k4,k5⟩
   refine tq (fun w'=> (Le ⟨w,φ0,(enter [a0]).O⟩ ⟨w',φ',O'⟩∧bu ⟨X,B,K⟩ ⟨w',φ',O'⟩)∧ak ⟨X,B,K⟩ ⟨w',φ',O'⟩ (.sl r g 0 xs.length) (a'.tmps.getD 2 undef)) (fun w1 D h1 h2 ⟨⟨hle,IS⟩,hv⟩=> ⟨⟨B1 hle h1,xk IS h2⟩,ak.cz (jY (μ:=⟨w1,φ',O'⟩) h2 rfl rfl) hv⟩) ?_ hd ⟨⟨k1,k2⟩,k4⟩
   rintro w' ⟨⟨k1,k2⟩,k4⟩
   refine⟨a'.tmps.getD 2 undef,by simp[results,mS],φ',fun _=>dX,O',_,[r],k1,k2,k4,.one ?_,rfl,fW xu⟩
   have GZ:aN xs 0 xs.length=xs:=lM rfl
   have hnr: ¬r< [a0].length:=by simp;omega
   simp only[cL,V.aC,bO,k5,GZ,CI.1,hnr]
   simp
 cases hb:ad.isNone with
 | true=>
   rw[hb] at FQ
   obtain rfl:=ve hb
   refine wpIn_cond_true FQ (wpIn_seq (wpIn_region ?_))
   rw[List.range_eq_range']
   refine eJ H (h:=({n:=fn.ntmps}:Hints)) rfl h2 HR.size 0 (by omega) C2 (σ':=(σ2.put (some 4) (.bool ad.isNone)).put (some 2) .nils) (by rw[List.drop_zero,k2'];rfl) fun a' w' kQ=> ?_
   refine wpIn_ret ?_
   obtain⟨mE,_,φ,rY,qY⟩:=kQ
   have eO: ((σ2.put (some 4) (.bool ad.isNone)).put (some 2) .nils).O=fun _=>bJ:=e2O
   have Dg:=rY.tmps 2
   have e2: ((σ2.put (some 4) (.bool ad.isNone)).put (some 2) .nils).T 2= .nils:=rfl
   rw[e2] at Dg
   have fJ:=rY.bg
   rw[eO] at qY fJ
   simp only[ak] at Dg
   obtain⟨aa,haa⟩:=Dg
   refine X6 a' w' (dn (fun _=>bJ) 1 ⟨1,sz,true,false,some []⟩) mE ⟨dn φ 1 ⟨0,0,0⟩,qY.trans ⟨Nat.le_refl _,fun b hb hn=> ⟨rfl,?_⟩,fun r=> ?_,fun r hr=> ?_,rfl,rfl,rfl,fun _ _=>rfl⟩,⟨fun r es bR=> ?_,fun r r' _ h1 h2 h3 h4=> ?_,fun r h1 h2=> ?_,fJ.blt⟩,1,1,Nat.le_refl _,?_,rfl⟩
   · rintro⟨r,h1,h2,h3,h4⟩
     by_cases e:r=1
     · subst e;simp[dn] at h3
     · simp[dn,e,bJ] at h1
   · simp only[bJ];omega
   · by_cases e:r=1
     · subst e;simp[dn,bJ] at hr
     · simp[dn,e]
   · by_cases e:r=1
     · subst e
       simp only[dn,if_true,Option.some.injEq] at bR ⊢
       subst bR
       left
       unfold kr
       simp only[dn,if_true]
       exact⟨w5,by simp,rfl,by simp⟩
     · simp[dn,e,bJ] at bR
   · by_cases e:r=1
     · subst e;simp[dn] at h3
     · simp[dn,e,bJ] at h1
   · by_cases e:r=1
     · subst e;simp[dn] at h2
     · simp[dn,e,bJ] at h1
   · simp only[ak]
     exact⟨aa,0,haa,by simp,by simp[dn],fun _=> ⟨by simpa [dn] using w5,by simp[dn],by simp⟩⟩
 | false=>
   rw[hb] at FQ
   refine wpIn_cond_false FQ (wpIn_skip ?_)
   refine wpIn_seq (wpIn_region ?_)
   have hw3:I5 RU [⟨some 5,.buildSlice 96 sz zero 0 [],none,[]⟩,⟨some 6,.move (.tmp 0),none,[]⟩,⟨some 7,.append 128 sz kb (.tmp 5) (.tmp 6),none,[]⟩,⟨some 2,.move (.tmp 7),none,[]⟩] (σ2.put (some 4) (.bool ad.isNone))
       (fun σ'=> ∃g,σ'.T 2= .sl 96 g 0 xs.length∧σ'.O 96=⟨g,sz,true,false,some xs⟩):=by
     have X7:σ2.O 96=bJ:=by rw[e2O]
     have SM:0*sz≤16777216:=by simp
     have hzb:=sb
     simp only[aS,V.c6] at hzb
     have Dr: ∀ (k:List V→Act),content sz a0 k=k xs:=by
       intro k
       rcases qV with rfl| ⟨rfl,rfl⟩ <;>simp[content]
     by_cases hx:xs=[]
     · subst hx
       simp only[tQ,lJ,qe,qf,tP,nV,nW,qg,qa,tO,qi,tT,dM,iF,nX,lL,av.kj,uh,kR,mV,mU,p9,ui,xG,qc,mW,qd,kS,qb,uj,xH,aS,V.c6,V.aC,V.an,V.isScalar,V.bA,uq,fW,lK,jC,rH,F1,F3,Bd,Be,uo,rG,bJ,andThen,uk,ki,iD,F5,dX,fL.mk.injEq,V.int.injEq,V.tuple.injEq,List.cons.injEq,V.bool.injEq,V.str.injEq,V.agg.injEq,List.getD_cons_zero,List.getD_cons_succ,List.getD_nil,List.length_cons,List.length_nil,List.getElem?_cons_zero,List.getElem?_cons_succ,List.set_cons_zero,List.set_cons_succ,List.take_succ_cons,List.take_zero,List.drop_succ_cons,List.drop_zero,List.take_nil,List.drop_nil,List.cons_append,List.nil_append,List.append_nil,Nat.zero_add,Nat.add_zero,Nat.reduceAdd,Nat.reduceSub,Nat.reduceMul,Nat.reduceEqDiff,Nat.reduceLT,Nat.reduceLeDiff,Nat.reduceBEq,BEq.rfl,Bool.true_or,Bool.or_true,Bool.false_or,Bool.or_false,Bool.and_true,Bool.true_and,Bool.and_false,Bool.false_and,Bool.and_self,Bool.or_self,Bool.false_eq_true,Bool.true_eq_false,Bool.not_true,Bool.not_false,Nat.lt_add_one,Nat.le_refl,decide_true,decide_false,decide_eq_true_eq,if_true,if_false,↓reduceIte,true_and,and_true,and_self,false_and,and_false,reduceCtorEq,Nat.sub_zero,Option.some.injEq,Nat.zero_lt_one,Nat.lt_irrefl,ne_eq,not_true_eq_false,not_false_eq_true,V.cells.eq_1,V.cells.eq_2,V.isAgg.eq_1,V.isAgg.eq_2,V.aP.eq_1,V.aP.eq_2,V.aP.eq_3,V.aP.eq_4,V.aP.eq_5,V.aP.eq_6,V.aP.eq_7,V.isTuple.eq_1,V.isTuple.eq_2,AM.part.eq_1,AM.part.eq_2,AM.part.eq_3,AM.part.eq_4,AM.da.eq_1,AM.da.eq_2,AM.da.eq_3,AM.da.eq_4,oD.eq_1,oD.eq_2,oD.eq_3,oD.eq_4,bL.eq_1,bL.eq_2,bL.eq_3,eS.eq_1,eS.eq_2,content.eq_1,content.eq_2,content.eq_3,content.eq_4,content.eq_5,dF.eq_1,dF.eq_2,cg.eq_1,cg.eq_2,sA.eq_1,sA.eq_2,cb.eq_1,cb.eq_2,cb.eq_3,cb.eq_4,cb.eq_5,cb.eq_6,dQ.eq_1,dQ.eq_2,gv.eq_1,gv.go.eq_1,gv.go.eq_2,cn.eq_1,cn.eq_2,eE.eq_1,eE.eq_2,dU.eq_1,dU.eq_2,bX.eq_1,bX.eq_2,bX.eq_3,cA.eq_1,cA.eq_2,bO.eq_1,bO.eq_2,bE.eq_1,bE.eq_2,cL.eq_1,cL.eq_2,cL.eq_3,cm.eq_1,cm.eq_2,eP.eq_1,eP.eq_2,cW.eq_1,cW.eq_2,bW.eq_1,bW.eq_2,bW.eq_3,bW.eq_4,b7.eq_1,b7.eq_2,b7.eq_3,b7.eq_4,b7.eq_5,b7.eq_6,b7.eq_7,b7.eq_8,b7.eq_9,b7.eq_10,b7.eq_11,b7.eq_12,b7.eq_13,b7.eq_14,b7.eq_15,b7.eq_16,b7.eq_17,b7.eq_18,b7.eq_19,b7.eq_20,b7.eq_21,dw.eq_1,dw.eq_2,dw.eq_3,dw.eq_4,dw.eq_5,dw.eq_6,dw.eq_7,Bf.eq_1,Bf.eq_2,Bf.eq_3,Bf.eq_4,min2.eq_1,min2.eq_2,max2.eq_1,max2.eq_2,gY.eq_1,gY.eq_2,gz.eq_1,gz.eq_2,v8.eq_1,v8.eq_2,v8.eq_3,v8.eq_4,eV.eq_1,eV.eq_2,eV.eq_3,eX.eq_1,eX.eq_2,ee.eq_1,ee.eq_2,ev.eq_1,ev.eq_2,wF.eq_1,wF.eq_2,vV.eq_1,vV.eq_2,ib.eq_1,ib.eq_2,ib.eq_3,cT.eq_1,cT.eq_2,leave.eq_1,distinct.eq_1,distinct.eq_2,fin.eq_1,fin.eq_2,fin.eq_3,av.eq_1,av.eq_2,av.eq_3,av.eq_4,av.eq_5,av.eq_6,av.eq_7,av.eq_8,av.eq_9,av.eq_10,av.eq_11,av.eq_12,av.eq_13,av.eq_14,av.eq_15,av.eq_16,av.eq_17,av.eq_18,av.eq_19,av.eq_20,av.eq_21,av.eq_23,av.eq_24,av.eq_26,av.eq_27,av.eq_28,av.eq_29,av.eq_30,av.eq_31,av.eq_32,av.eq_34,av.eq_35,av.eq_36,av.eq_37,av.eq_38,pj.eq_1,apart,cp.eq_1,cp.eq_2,cM.eq_1,cM.eq_2,cM.eq_3,fy.eq_1,fy.eq_2,List.map_nil,List.map_cons,List.all_nil,List.all_cons,List.contains_nil,List.contains_cons,jD.eq_1,jD.eq_2,Option.isSome_some,Option.isSome_none,Option.isNone_none,Option.isNone_some,qk,xJ,bne_self_eq_false,Bool.bne_true,Bool.bne_false,Bool.true_bne,Bool.false_bne,lM,List.isEmpty_cons,List.isEmpty_nil,eq_self,List.replicate_succ,List.replicate_zero,rI,Int.cast_ofNat_Int,Int.reduceToNat,Int.toNat_zero,Int.toNat_one,Int.reduceAdd,Int.reduceSub,Int.reduceMul,Int.reduceNeg,Int.reduceLE,Int.reduceLT,Int.reduceEq,Int.neg_ofNat_le_ofNat,Int.natCast_nonneg,Int.toNat_natCast,Int.toNat_natCast_add_one,Int.ofNat_lt,wrap64,Int.le_refl,e20,X7,Dr,hzb,SM,w5,F4 (show ([]:List V).all (aS · sz)=true from rfl),Nat.zero_le,overwrite]
       exact⟨1,rfl,rfl⟩
     · have yy: ¬xs.length≤0:=by
        intro h;exact hx (List.eq_nil_of_length_eq_zero (by omega))
       simp only[tQ,lJ,qe,qf,tP,nV,nW,qg,qa,tO,qi,tT,dM,iF,nX,lL,av.kj,uh,kR,mV,mU,p9,ui,xG,qc,mW,qd,kS,qb,uj,xH,aS,V.c6,V.aC,V.an,V.isScalar,V.bA,uq,fW,lK,jC,rH,F1,F3,Bd,Be,uo,rG,bJ,andThen,uk,ki,iD,F5,dX,fL.mk.injEq,V.int.injEq,V.tuple.injEq,List.cons.injEq,V.bool.injEq,V.str.injEq,V.agg.injEq,List.getD_cons_zero,List.getD_cons_succ,List.getD_nil,List.length_cons,List.length_nil,List.getElem?_cons_zero,List.getElem?_cons_succ,List.set_cons_zero,List.set_cons_succ,List.take_succ_cons,List.take_zero,List.drop_succ_cons,List.drop_zero,List.take_nil,List.drop_nil,List.cons_append,List.nil_append,List.append_nil,Nat.zero_add,Nat.add_zero,Nat.reduceAdd,Nat.reduceSub,Nat.reduceMul,Nat.reduceEqDiff,Nat.reduceLT,Nat.reduceLeDiff,Nat.reduceBEq,BEq.rfl,Bool.true_or,Bool.or_true,Bool.false_or,Bool.or_false,Bool.and_true,Bool.true_and,Bool.and_false,Bool.false_and,Bool.and_self,Bool.or_self,Bool.false_eq_true,Bool.true_eq_false,Bool.not_true,Bool.not_false,Nat.lt_add_one,Nat.le_refl,decide_true,decide_false,decide_eq_true_eq,if_true,if_false,↓reduceIte,true_and,and_true,and_self,false_and,and_false,reduceCtorEq,Nat.sub_zero,Option.some.injEq,Nat.zero_lt_one,Nat.lt_irrefl,ne_eq,not_true_eq_false,not_false_eq_true,V.cells.eq_1,V.cells.eq_2,V.isAgg.eq_1,V.isAgg.eq_2,V.aP.eq_1,V.aP.eq_2,V.aP.eq_3,V.aP.eq_4,V.aP.eq_5,V.aP.eq_6,V.aP.eq_7,V.isTuple.eq_1,V.isTuple.eq_2,AM.part.eq_1,AM.part.eq_2,AM.part.eq_3,AM.part.eq_4,AM.da.eq_1,AM.da.eq_2,AM.da.eq_3,AM.da.eq_4,oD.eq_1,oD.eq_2,oD.eq_3,oD.eq_4,bL.eq_1,bL.eq_2,bL.eq_3,eS.eq_1,eS.eq_2,content.eq_1,content.eq_2,content.eq_3,content.eq_4,content.eq_5,dF.eq_1,dF.eq_2,cg.eq_1,cg.eq_2,sA.eq_1,sA.eq_2,cb.eq_1,cb.eq_2,cb.eq_3,cb.eq_4,cb.eq_5,cb.eq_6,dQ.eq_1,dQ.eq_2,gv.eq_1,gv.go.eq_1,gv.go.eq_2,cn.eq_1,cn.eq_2,eE.eq_1,eE.eq_2,dU.eq_1,dU.eq_2,bX.eq_1,bX.eq_2,bX.eq_3,cA.eq_1,cA.eq_2,bO.eq_1,bO.eq_2,bE.eq_1,bE.eq_2,cL.eq_1,cL.eq_2,cL.eq_3,cm.eq_1,cm.eq_2,eP.eq_1,eP.eq_2,cW.eq_1,cW.eq_2,bW.eq_1,bW.eq_2,bW.eq_3,bW.eq_4,b7.eq_1,b7.eq_2,b7.eq_3,b7.eq_4,b7.eq_5,b7.eq_6,b7.eq_7,b7.eq_8,b7.eq_9,b7.eq_10,b7.eq_11,b7.eq_12,b7.eq_13,b7.eq_14,b7.eq_15,b7.eq_16,b7.eq_17,b7.eq_18,b7.eq_19,b7.eq_20,b7.eq_21,dw.eq_1,dw.eq_2,dw.eq_3,dw.eq_4,dw.eq_5,dw.eq_6,dw.eq_7,Bf.eq_1,Bf.eq_2,Bf.eq_3,Bf.eq_4,min2.eq_1,min2.eq_2,max2.eq_1,max2.eq_2,gY.eq_1,gY.eq_2,gz.eq_1,gz.eq_2,v8.eq_1,v8.eq_2,v8.eq_3,v8.eq_4,eV.eq_1,eV.eq_2,eV.eq_3,eX.eq_1,eX.eq_2,ee.eq_1,ee.eq_2,ev.eq_1,ev.eq_2,wF.eq_1,wF.eq_2,vV.eq_1,vV.eq_2,ib.eq_1,ib.eq_2,ib.eq_3,cT.eq_1,cT.eq_2,leave.eq_1,distinct.eq_1,distinct.eq_2,fin.eq_1,fin.eq_2,fin.eq_3,av.eq_1,av.eq_2,av.eq_3,av.eq_4,av.eq_5,av.eq_6,av.eq_7,av.eq_8,av.eq_9,av.eq_10,av.eq_11,av.eq_12,av.eq_13,av.eq_14,av.eq_15,av.eq_16,av.eq_17,av.eq_18,av.eq_19,av.eq_20,av.eq_21,av.eq_23,av.eq_24,av.eq_26,av.eq_27,av.eq_28,av.eq_29,av.eq_30,av.eq_31,av.eq_32,av.eq_34,av.eq_35,av.eq_36,av.eq_37,av.eq_38,pj.eq_1,apart,cp.eq_1,cp.eq_2,cM.eq_1,cM.eq_2,cM.eq_3,fy.eq_1,fy.eq_2,List.map_nil,List.map_cons,List.all_nil,List.all_cons,List.contains_nil,List.contains_cons,jD.eq_1,jD.eq_2,Option.isSome_some,Option.isSome_none,Option.isNone_none,Option.isNone_some,qk,xJ,bne_self_eq_false,Bool.bne_true,Bool.bne_false,Bool.true_bne,Bool.false_bne,lM,List.isEmpty_cons,List.isEmpty_nil,eq_self,List.replicate_succ,List.replicate_zero,rI,Int.cast_ofNat_Int,Int.reduceToNat,Int.toNat_zero,Int.toNat_one,Int.reduceAdd,Int.reduceSub,Int.reduceMul,Int.reduceNeg,Int.reduceLE,Int.reduceLT,Int.reduceEq,Int.neg_ofNat_le_ofNat,Int.natCast_nonneg,Int.toNat_natCast,Int.toNat_natCast_add_one,Int.ofNat_lt,wrap64,Int.le_refl,e20,X7,Dr,hzb,SM,w5,F4 CI.2,CI.1,yp,Nat.zero_le,yy]
       exact⟨2,rfl,rfl⟩
   obtain⟨n,σ4,X8,g,KB,HP⟩:=hw3
   rw[List.range_eq_range']
   refine eJ (RW (Y:=⟨X,B,K⟩) mP n) (h:=({n:=fn.ntmps}:Hints)) rfl h3 HS.size 0 (by omega) C2 (by rw[List.drop_zero,k3'];exact X8) fun a' w' kQ=> ?_
   refine wpIn_ret ?_
   obtain⟨mE,_,φ,rY,qY⟩:=kQ
   have Dg:=rY.tmps 2
   rw[KB] at Dg
   exact X6 a' w' σ4.O mE ⟨φ,qY,rY.bg,96,g,by omega,Dg,HP⟩
end
end Go.AM
namespace Go.AM
open Go Go.RowKit Go.ChangeShapes Go.WideShapes
theorem E6 {H:Type} {enc:TypeId×Value→H} {P:Program} {f:Func} {s:ChangeSpec} {apart fresh handsOn again:Bool} {W W':World} {args:Array Value} {v:Value} {ds gs:List (DataW H)} {before pa pv:List MemPlace}
   (hW:DataW.Whole enc P f.params.toList s.vars apart W args.toList ds gs before)
   (mS: ∀ (b:Nat) (sp:Nat→Bool) (hd:Bool),DataW.TrodAll enc P W' b sp hd f.resultTypes.toList (v.resultList f.resultTypes.size) (s.fn H (ds++gs)).results [])
   (jX: ∀sp:Nat→Bool,(∀p ∈ before,sp p.block=true)→DataW.TrodAll enc P W' 0 sp true f.params.toList args.toList (s.fn H (ds++gs)).args pa)
   (MK: ∀sp:Nat→Bool,(∀p ∈ before,sp p.block=true)→DataW.TrodVars enc P W' sp s.vars (s.fn H (ds++gs)).vars pv)
   (vW:before=pa++pv) (hk:W.keptBut W' (· ∈ before)) (gX: ∀a,a.block<W.heap.size→W'.frozen? a=W.frozen? a)
   (XC: ∀ (j:Nat) (t:TypeId) (r:Value),f.resultTypes[j]? =some t→(v.resultList f.resultTypes.size)[j]? =some r→Value.okWide P W' .any 0 t r):
   s.post enc P f apart fresh handsOn again W args v W':=by
 have hold: ∀p ∈ before,(fun b=>decide (b<W.heap.size)) p.block=true:=fun p hp=>by simpa using hW.lt p hp
 have bl:=hW.lt
 refine⟨ds,gs,before,[],pa,pv,hW,mS _ _ _,jX _ hold,MK _ hold,World.keptBut_mono (fun p hp=> ⟨hp,?_⟩) hk,fun _=> ?_⟩
 · rw[vW,List.mem_append] at hp
   exact Or.inr hp
 · obtain⟨_,_,_,_,_,hz,hn⟩:=hW
   refine⟨XC,_,_,([]++pa)++pv,⟨[]++pa,pv,trodAll_append (jX _ (fun _ _=>rfl)) (mS _ _ _),MK _ (fun _ _=>rfl),rfl,?_,?_⟩,?_⟩
   · intro b off hp
     have hb:MemPlace.cell b off ∈ before:=by rw[vW];simpa using hp
     rw[gX _ (bl _ hb)]
     exact hz b off hb
   · intro ha
     have:=hn ha
     rw[vW] at this
     simpa using this
   · intro p hp _
     rw[vW]
     simpa using hp
end Go.AM
namespace Go.AM
open Go Go.RowKit
section
variable (P:Program)
def tM (e:TypeId) (ws:List V):V:=match P.underlying e with
 | some (.struct _) | some (.array ..)=> .agg ws
 | _=>ws.headD dX
def TVF (tv:TypeId→List V→Prop):List Field→List V→Prop
 | [],vs=>vs=[]
 | f::fs,vs=> ∃a b,vs=a++b∧a.length=P.cellsOf f.type∧tv f.type a∧TVF tv fs b
def X9 (tv:List V→Prop) (s:Nat):Nat→List V→Prop
 | 0,vs=>vs=[]
 | k+1,vs=> ∃a b,vs=a++b∧a.length=s∧tv a∧X9 tv s k b
def TV:Nat→TypeId→List V→Prop
 | 0,_,_=>False
 | n+1,t,vs=>match P.underlying t with
   | some .bool=> ∃b,vs=[.bool b]
   | some (.int k)=> ∃x,vs=[.int k x]∧(Lit.int k x).wf=true
   | some .string=> ∃s,vs=[.str s]∧s.length≤maxLen
   | some (.slice e)=>vs=[.nils]∨ ∃xs,vs=[.lit (P.cellsOf e) xs]∧xs.length≤maxLen∧ ∀x ∈ xs,∃ws,TV n e ws∧x=tM P e ws
   | some (.struct fs)=>TVF P (TV n) fs.toList vs
   | some (.array k e)=>X9 (TV n e) (P.cellsOf e) k vs
   | _=>False
def nP:List Field→Nat→Option Nat
 | [],off=>some off
 | f::fs,off=>if f.offset=off then nP fs (off+P.cellsOf f.type) else none
def yF (S:List TypeId) (t:TypeId):Bool:=match P.underlying t with
 | some .bool| some (.int _) | some .string=>P.cellsOf t==1
 | some (.slice e)=>P.cellsOf t==1 &&decide (0 <P.cellsOf e) &&S.contains e
 | some (.struct fs)=> (nP P fs.toList 0==some (P.cellsOf t)) &&fs.toList.all fun f=>S.contains f.type
 | some (.array k e)=>S.contains e &&P.cellsOf t==k*P.cellsOf e
 | _=>false
end
section
variable {X:TrEnv} {H:Type} {enc:TypeId×Value→H} {w:World} {S:List TypeId} {base:Nat} {spare:Nat→Bool} {held:Bool}
abbrev still (w:World) (φ:Nat→Row):Mu:=⟨w,φ,fun _=>bJ⟩
abbrev free (X:TrEnv):Ctx:=⟨X,fun _=>False,(0,0)⟩
def Good (X:TrEnv) (w:World) (n:Nat) (t:TypeId) (vs:List V) (cs:List Value):Prop:=
 TV X.P n t vs∧vs.all V.aP=true∧V.an vs=true∧ ∀φ,aj (free X) (still w φ) vs cs
theorem mu: ∀ {a b:List V},V.an (a++b)=(V.an a &&V.an b)
 | [],b=>by simp[V.an]
 | x::a,b=>by simp[V.an,mu (a:=a),Bool.and_assoc]
theorem tx {n:Nat}: ∀ {fs:List Field} {cs:List Value} {off total:Nat},nP X.P fs off=some total→cs.length=total→
   (∀f ∈ fs,∃vs,Good X w n f.type vs ((cs.drop f.offset).take (X.P.cellsOf f.type)))→
   ∃vs,TVF X.P (TV X.P n) fs vs∧vs.all V.aP=true∧V.an vs=true∧ ∀φ,aj (free X) (still w φ) vs (cs.drop off)
 | [],cs,off,total,hc,hl,_=>by
   simp only[nP,Option.some.injEq] at hc
   subst hc
   refine⟨[],rfl,rfl,rfl,fun φ=> ?_⟩
   rw[List.drop_eq_nil_of_le (by omega)];simp[aj]
 | f::fs,cs,off,total,hc,hl,hf=>by
   simp only[nP] at hc
   split at hc
   · rename_i ho
     subst ho
     obtain⟨a,IY,ha2,ha3,S8⟩:=hf f (by simp)
     obtain⟨b,IT,KH,hb3,hb4⟩:=tx hc hl (fun g hg=>hf g (by simp[hg]))
     have hle:f.offset+X.P.cellsOf f.type≤total:=by
      clear IY ha2 ha3 S8 IT KH hb3 hb4 hf
      have: ∀ (fs:List Field) (o tt:Nat),nP X.P fs o=some tt→o≤tt:=by
       intro fs
       induction fs with
       | nil=>intro o tt h;simp[nP] at h;omega
       | cons g gs ih=>
         intro o tt h
         simp only[nP] at h
         split at h
         · have:=ih _ _ h;omega
         · simp at h
      exact this _ _ _ hc
     have hal:a.length=X.P.cellsOf f.type:=by
      have:=(S8 (fun _=> ⟨0,0,0⟩)).length
      rw[this];simp;omega
     refine⟨a++b,⟨a,b,rfl,hal,IY,IT⟩,by simp[ha2,KH],by rw[mu,ha3,hb3];rfl,fun φ=> ?_⟩
     have e:cs.drop f.offset=(cs.drop f.offset).take (X.P.cellsOf f.type)++cs.drop (f.offset+X.P.cellsOf f.type):=by
      rw[←List.drop_drop,List.take_append_drop]
     rw[e]
     exact aj.append (S8 φ) (hb4 φ)
   · simp at hc
theorem vx {n:Nat} {e:TypeId}: ∀ (k:Nat) {cs:List Value} (j:Nat),cs.length=(j+k)*X.P.cellsOf e→
   (∀i,i<j+k→ ∃vs,Good X w n e vs ((cs.drop (i*X.P.cellsOf e)).take (X.P.cellsOf e)))→
   ∃vs,X9 (TV X.P n e) (X.P.cellsOf e) k vs∧vs.all V.aP=true∧V.an vs=true∧ ∀φ,aj (free X) (still w φ) vs (cs.drop (j*X.P.cellsOf e))
 | 0,cs,j,hl,_=>by
   refine⟨[],rfl,rfl,rfl,fun φ=> ?_⟩
   rw[List.drop_eq_nil_of_le (by rw[hl];simp)];simp[aj]
 | k+1,cs,j,hl,hf=>by
   obtain⟨a,IY,ha2,ha3,S8⟩:=hf j (by omega)
   have e1:j+1+k=j+(k+1):=by omega
   obtain⟨b,IT,KH,hb3,hb4⟩:=vx k (cs:=cs) (j+1) (by rw[e1];exact hl) (fun i hi=>hf i (by omega))
   have hal:a.length=X.P.cellsOf e:=by
    have:=(S8 (fun _=> ⟨0,0,0⟩)).length
    rw[this];simp
    rw[hl,←Nat.sub_mul]
    have:1≤j+(k+1) - j:=by omega
    exact Nat.min_eq_left (Nat.le_mul_of_pos_left _ this)
   refine⟨a++b,⟨a,b,rfl,hal,IY,IT⟩,by simp[ha2,KH],by rw[mu,ha3,hb3];rfl,fun φ=> ?_⟩
   have e:cs.drop (j*X.P.cellsOf e)=(cs.drop (j*X.P.cellsOf e)).take (X.P.cellsOf e)++cs.drop ((j+1)*X.P.cellsOf e):=by
    rw[Nat.add_mul,Nat.one_mul,←List.drop_drop,List.take_append_drop]
   rw[e]
   exact aj.append (S8 φ) (hb4 φ)
theorem Dt {α:Type} {p:Nat→α→Prop}: ∀ (n:Nat),(∀i,i<n→ ∃x,p i x)→ ∃xs:List α,xs.length=n∧ ∀i x,xs[i]? =some x→p i x
 | 0,_=> ⟨[],rfl,by simp⟩
 | n+1,h=>by
   obtain⟨xs,h1,h2⟩:=Dt n (fun i hi=>h i (by omega))
   obtain⟨x,hx⟩:=h n (by omega)
   refine⟨xs++[x],by simp[h1],fun i y hy=> ?_⟩
   by_cases hi:i<xs.length
   · rw[List.getElem?_append_left hi] at hy;exact h2 i y hy
   · rw[List.getElem?_append_right (by omega)] at hy
     have:i - xs.length=0:=by
      have:=(List.getElem?_eq_some_iff.1 hy).1
      simp at this;omega
     rw[this] at hy
     simp at hy;subst hy
     have:i=n:=by omega
     subst this;exact hx
theorem trod_good (hS:S.all (yF X.P S)=true): ∀ (n:Nat) (t:TypeId) (cs:List Value) (x:DataW H×List MemPlace),t ∈ S→DataW.trod enc X.P w base spare held n t cs=some x→ ∃vs,Good X w n t vs cs:=by
 intro n
 induction n with
 | zero=>intro t cs x _ h;simp[DataW.trod] at h
 | succ n ih=>
   intro t cs x ht h
   have hp:=List.all_eq_true.1 hS t ht
   unfold yF at hp
   cases hu:X.P.underlying t with
   | none=>rw[hu] at hp;simp at hp
   | some desc=>
     rw[hu] at hp
     cases desc with
     | bool=>
       obtain⟨b,rfl,_⟩:=DataW.trod_bool hu h
       exact⟨[.bool b],by simp[TV,hu],rfl,rfl,fun φ=>by simp[aj,ak]⟩
     | int k=>
       obtain⟨m,rfl,_,hw⟩:=DataW.trod_int hu h
       exact⟨[.int k m],by simp[TV,hu,hw],rfl,rfl,fun φ=>by simp[aj,ak]⟩
     | string=>
       obtain⟨s,rfl,_,hm⟩:=DataW.trod_string hu h
       exact⟨[.str s.data.toList],by simp only[TV,hu];exact⟨_,rfl,by simpa using hm⟩,rfl,rfl,fun φ=>by simp only[aj,ak];exact⟨⟨s,rfl,rfl⟩,trivial⟩⟩
     | slice e=>
       simp only[Bool.and_eq_true,decide_eq_true_eq] at hp
       obtain⟨⟨_,yy⟩,he⟩:=hp
       have wP:e ∈ S:=by simpa using he
       rcases DataW.trod_slice hu h with⟨rfl,_⟩ | ⟨a,len,cap,elems,rest,m,hn,rfl,_,hb,hl,hm,hlen,oO,_,_⟩
       · exact⟨[.nils],by simp[TV,hu],rfl,rfl,fun φ=>by simp only[aj,ak];exact⟨⟨none,rfl⟩,trivial⟩⟩
       · obtain rfl:n=m:=by omega
         have each: ∀i,i<len→ ∃q:V×Value,(∃ws,TV X.P n e ws∧q.1=tM X.P e ws)∧q.1.aC=true∧q.1.c6=true∧(∀φ,ak (free X) (still w φ) q.1 q.2)∧
             q.2.cells.size=X.P.cellsOf e∧ ∀j c,q.2.cells[j]? =some c→w.cell? ((a.add (i*X.P.cellsOf e)).add j)=some c:=by
           intro i hi
           have h1:=oO i hi
           rw[List.getElem?_eq_getElem (by omega)] at h1
           rw[Option.bind_eq_some_iff] at h1
           obtain⟨cN,hc,v5⟩:=h1
           obtain⟨_,qT,nk⟩:=World.cells?_some hc
           obtain⟨ws,g1,g2,g3,g4⟩:=ih e cN _ wP v5
           have oP:ws.length=cN.length:=(g4 (fun _=> ⟨0,0,0⟩)).length
           have yG: ∀ (v:Value),v.cells.toList=cN→v.cells.size=X.P.cellsOf e∧ ∀j c,v.cells[j]? =some c→w.cell? ((a.add (i*X.P.cellsOf e)).add j)=some c:=by
             intro v hv
             have hs:v.cells.size=cN.length:=by rw[←hv];simp
             refine⟨by rw[hs,qT],fun j c hj=> ?_⟩
             have Mt:cN[j]? =some c:=by rw[←hv];simpa using hj
             rw[nk j (by have:=(List.getElem?_eq_some_iff.1 Mt).1;omega)];exact Mt
           have Ey: (∃fs,X.P.underlying e=some (.struct fs))∨(∃k e',X.P.underlying e=some (.array k e'))∨tM X.P e ws=ws.headD dX∧ws.length=1:=by
             have wZ:=List.all_eq_true.1 hS e wP
             unfold yF at wZ
             cases hue:X.P.underlying e with
             | none=>rw[hue] at wZ;simp at wZ
             | some d=>
               rw[hue] at wZ
               cases d<;>simp at wZ
               case struct fs=>exact .inl ⟨fs,rfl⟩
               case array k e'=>exact .inr (.inl ⟨k,e',rfl⟩)
               all_goals exact .inr (.inr ⟨by simp[tM,hue],by simp_all⟩)
           have asAgg:tM X.P e ws= .agg ws→ ∃q:V×Value,(∃ws,TV X.P n e ws∧q.1=tM X.P e ws)∧q.1.aC=true∧q.1.c6=true∧(∀φ,ak (free X) (still w φ) q.1 q.2)∧
               q.2.cells.size=X.P.cellsOf e∧ ∀j c,q.2.cells[j]? =some c→w.cell? ((a.add (i*X.P.cellsOf e)).add j)=some c:=by
             intro S9
             refine⟨(tM X.P e ws,.agg cN.toArray),⟨ws,g1,rfl⟩,?_,?_,fun φ=> ?_,yG _ (by simp[Value.cells])⟩
             · simp only[S9,V.aC,g3]
             · simp[S9,V.c6,V.isAgg]
             · simp only[S9,ak];exact⟨g2,_,rfl,by simpa using g4 φ⟩
           rcases Ey with⟨fs,hs⟩ | ⟨k,e',hs⟩ | ⟨S9,h1⟩
           · exact asAgg (by simp[tM,hs])
           · exact asAgg (by simp[tM,hs])
           · match ws,h1,cN,oP,g1,g2,g3,g4,yG with
             | [x],_,[c],_,g1,g2,g3,g4,yG=>
               have g4': ∀φ,ak (free X) (still w φ) x c:=fun φ=>by have:=g4 φ;simp only[aj] at this;exact this.1
               have g2':x.aP=true:=by simpa using g2
               refine⟨(x,c),⟨[x],g1,by simp[S9]⟩,by simpa [V.an] using g3,by simp[V.c6,g2'],g4',yG c ?_⟩
               rw[((g4' (fun _=> ⟨0,0,0⟩)).mb g2').2]
         obtain⟨qs,q1,q2⟩:=Dt len each
         refine⟨[.lit (X.P.cellsOf e) (qs.map (·.1))],?_,rfl,rfl,fun φ=> ?_⟩
         · simp only[TV,hu]
           refine .inr ⟨_,rfl,by simp[q1];omega,fun x hx=> ?_⟩
           obtain⟨q,hq,rfl⟩:=List.mem_map.1 hx
           obtain⟨i,hi⟩:=List.mem_iff_getElem?.1 hq
           exact(q2 i q hi).1
         · simp only[  aj,ak,and_true]
           refine⟨An fun x hx=> ?_,?_,some a,cap,qs.map (·.2),by simp[q1],by simp[q1];omega,?_,?_⟩
           · obtain⟨q,hq,rfl⟩:=List.mem_map.1 hx
             obtain⟨i,hi⟩:=List.mem_iff_getElem?.1 hq
             exact(q2 i q hi).2.1
           · rw[List.all_eq_true]
             intro x hx
             obtain⟨q,hq,rfl⟩:=List.mem_map.1 hx
             obtain⟨i,hi⟩:=List.mem_iff_getElem?.1 hq
             exact(q2 i q hi).2.2.1
           · refine aj.uV (by simp) fun i y u hy hu=> ?_
             rw[List.getElem?_map] at hy hu
             cases hq:qs[i]? with
             | none=>simp[hq] at hy
             | some q=>
               simp[hq] at hy hu
               subst hy hu
               exact(q2 i q hq).2.2.2.1 φ
           · cases qs with
             | nil=>exact .inl rfl
             | cons q0 qs=>
               right
               have cJ: ∀ (i:Nat) (q:V×Value),(q0::qs)[i]? =some q→ ∀j c,q.2.cells[j]? =some c→w.cell? ((a.add (i*X.P.cellsOf e)).add j)=some c:=fun i q hi=> (q2 i q hi).2.2.2.2.2
               have cH: ∀ (i:Nat) (q:V×Value),(q0::qs)[i]? =some q→q.2.cells.size=X.P.cellsOf e:=fun i q hi=> (q2 i q hi).2.2.2.2.1
               have h0:=cJ 0 q0 rfl 0 (q0.2.cells[0]'(by rw[cH 0 q0 rfl];exact yy)) (Array.getElem?_eq_getElem _)
               obtain⟨ab,ao,asp⟩:=a
               have uP:asp=none∧ab<w.heap.size:=by
                 simp only[Nat.zero_mul,Addr.add,if_true,World.cell?] at h0
                 split at h0
                 ·  rename_i c T f hh
                    split at h0
                    · simp at h0
                    · rename_i hn
                      exact⟨by cases asp<;>simp_all,(Array.getElem?_eq_some_iff.1 hh).1⟩
                 · simp at h0
               obtain⟨rfl,bl⟩:=uP
               refine⟨ab,ao,rfl,?_,bl,fun i v hv=> ?_⟩
               · rintro(⟨r,h1,_⟩ | h)
                 · simp[bJ] at h1
                 · exact h
               · rw[  List.getElem?_map] at hv
                 cases hq: (q0::qs)[i]? with
                 | none=>simp[hq] at hv
                 |  some q=>
                    simp[hq] at hv
                    subst hv
                    refine⟨cH i q hq,fun j c hc=> ?_⟩
                    have:=cJ i q hq j c hc
                    have qB: ∀o m,Addr.add ⟨ab,o,none⟩ m=⟨ab,o+m,none⟩:=by
                      intro o m
                      simp only[Addr.add]
                      split
                      · rename_i h0;subst h0;rfl
                      · rfl
                    rw[qB,qB] at this
                    exact this
     | struct fs=>
       simp only[Bool.and_eq_true,beq_iff_eq] at hp
       obtain⟨Dr,qw⟩:=hp
       obtain⟨xs,m,hm,_,hlen,vY,hf⟩:=DataW.trod_struct hu h
       obtain rfl:n=m:=by omega
       have key: ∀f ∈ fs.toList,∃vs,Good X w n f.type vs ((cs.drop f.offset).take (X.P.cellsOf f.type)):=by
         intro f hfm
         obtain⟨i,hi⟩:=List.mem_iff_getElem?.1 hfm
         have yg:fs[i]? =some f:=by simpa using hi
         have h1:=hf i f yg
         have Ta:i<xs.length:=by rw[vY];exact(Array.getElem?_eq_some_iff.1 yg).1
         rw[List.getElem?_eq_getElem Ta] at h1
         exact ih f.type _ _ (by have:=List.all_eq_true.1 qw f hfm;simpa using this) h1
       obtain⟨vs,k1,k2,k3,k4⟩:=tx Dr hlen key
       exact⟨vs,by simp only[TV,hu];exact k1,k2,k3,fun φ=>by simpa using k4 φ⟩
     | array k e=>
       simp only[Bool.and_eq_true,beq_iff_eq] at hp
       obtain⟨he,cH⟩:=hp
       obtain⟨xs,m,hm,_,hlen,vY,hf⟩:=DataW.trod_array hu h
       obtain rfl:n=m:=by omega
       have key: ∀i,i< 0+k→ ∃vs,Good X w n e vs ((cs.drop (i*X.P.cellsOf e)).take (X.P.cellsOf e)):=by
         intro i hi
         have h1:=hf i (by omega)
         rw[List.getElem?_eq_getElem (by omega)] at h1
         exact ih e _ _ (by simpa using he) h1
       obtain⟨vs,k1,k2,k3,k4⟩:=vx k 0 (by rw[hlen,cH];simp) key
       exact⟨vs,by simp only[TV,hu];exact k1,k2,k3,fun φ=>by simpa using k4 φ⟩
     | _=>simp at hp
where
 An {cs:List V} (h: ∀x ∈ cs,V.aC x=true):V.an cs=true:=by
  induction cs with
  | nil=>rfl
  | cons c cs ih=>simp only[V.an,Bool.and_eq_true];exact⟨h c (by simp),ih fun x hx=>h x (by simp[hx])⟩
end
end Go.AM
namespace Go.AM
open Go Go.RowKit
def HT (X:TrEnv) (g:Nat) (af:aF):Prop:= ∃F fn h c,X.jR F=some g∧X.P.funcs[F]? =some fn∧(fn.name== "runtime.NumGoroutine")=false∧fn.body=some c∧az X h fn=some af∧af.nparams≤fn.ntmps
def j6 (X:TrEnv):List (Nat×aF)→Prop
 | []=>True
 | p::ps=>HT X p.1 p.2∧j6 X ps
def Du (X:TrEnv) (g:Nat) (fn:List V→Option fL):Prop:= ∃F,X.jR F=some g∧ ∀as res,fn as=some res→cY X F as res
def pM (X:TrEnv):List (Nat× (List V→Option fL))→Prop
 | []=>True
 | p::ps=>Du X p.1 p.2∧pM X ps
theorem j6.mem {X:TrEnv}: ∀ {tab:List (Nat×aF)},j6 X tab→ ∀p ∈ tab,HT X p.1 p.2
 | [],_,p,hp=>by simp at hp
 | q::qs,h,p,hp=>by
   rcases List.mem_cons.1 hp with rfl| hp
   · exact h.1
   · exact j6.mem h.2 p hp
theorem pM.mem {X:TrEnv}: ∀ {tab:List (Nat× (List V→Option fL))},pM X tab→ ∀p ∈ tab,Du X p.1 p.2
 | [],_,p,hp=>by simp at hp
 | q::qs,h,p,hp=>by
   rcases List.mem_cons.1 hp with rfl| hp
   · exact h.1
   · exact pM.mem h.2 p hp
def Dv (X:TrEnv) (g:Nat) (h:MW):Prop:= ∃F,X.jR F=some g∧ ∀C:bj,(∀f F as res,X.jR F=some f→C f as=some res→cY X F as res)→ ∀as res,h.h C as=some res→cY X F as res
def sn (X:TrEnv):List (Nat×MW)→Prop
 | []=>True
 | p::ps=>Dv X p.1 p.2∧sn X ps
theorem sn.mem {X:TrEnv}: ∀ {tab:List (Nat×MW)},sn X tab→ ∀p ∈ tab,Dv X p.1 p.2
 | [],_,p,hp=>by simp at hp
 | q::qs,h,p,hp=>by
   rcases List.mem_cons.1 hp with rfl| hp
   · exact h.1
   · exact sn.mem h.2 p hp
def rj (X:TrEnv) (g:Nat) (it:List V→Option (List (List V))):Prop:= ∃F,X.jR F=some g∧ ∀caps xs,it caps=some xs→ ∀ (B:Nat→Prop) (K:Nat×Nat) (μ:Mu) (lb:Array Value),aj ⟨X,B,K⟩ μ caps lb.toList→bu ⟨X,B,K⟩ μ→ue ⟨X,B,K⟩ μ F lb xs
def mw (X:TrEnv):List (Nat× (List V→Option (List (List V))))→Prop
 | []=>True
 | p::ps=>rj X p.1 p.2∧mw X ps
theorem mw.mem {X:TrEnv}: ∀ {tab:List (Nat× (List V→Option (List (List V))))},mw X tab→ ∀p ∈ tab,rj X p.1 p.2
 | [],_,p,hp=>by simp at hp
 | q::qs,h,p,hp=>by
   rcases List.mem_cons.1 hp with rfl| hp
   · exact h.1
   · exact mw.mem h.2 p hp
def iA:List Nat→Bool
 | []=>true
 | x::xs=> !xs.contains x &&iA xs
theorem kN: ∀ {l:List Nat},iA l=true→ ∀ {i j x:Nat},l[i]? =some x→l[j]? =some x→i=j
 | [],_,i,j,x,h,_=>by simp at h
 | y::l,hd,i,j,x,hi,hj=>by
   simp only[iA,Bool.and_eq_true,Bool.not_eq_true'] at hd
   have ez: ∀k:Nat,l[k]? =some y→False:=fun k hk=>by
     have:l.contains y=true:=by simpa using List.mem_of_getElem? hk
     rw[hd.1] at this;simp at this
   cases i with
   | zero=>
     cases j with
     | zero=>rfl
     | succ j=>simp at hi hj;subst hi;exact(ez j hj).elim
   | succ i=>
     cases j with
     | zero=>simp at hi hj;subst hj;exact(ez i hi).elim
     | succ j=>simp at hi hj;rw[kN hd.2 hi hj]
theorem Ao {P:Program} {fl:List Nat} {tl:List (Nat×Nat)} (hf:iA fl=true) (ht:iA (tl.map (·.2))=true) (hm:P.follows .mixedOrders=true) {tab:List (Nat×aF)} {ext:List (Nat× (List V→Option fL))} {hyb:List (Nat×MW)} {iter:List (Nat× (List V→Option (List (List V))))}:
   let X:TrEnv:=⟨P,fun F=>fl[F]?,fun t=> (tl.find? (·.1==t)).map (·.2)⟩
   j6 X tab→pM X ext→sn X hyb→mw X iter→vu X (SH tab ext hyb iter):=by
 intro X h1 h2 h3 h4
 have vy: ∀F F' g,X.jR F=some g→X.jR F'=some g→F=F':=fun F F' g h h'=>kN hf h h'
 refine⟨fun t1 t2 k h h'=> ?_,hm,fun f af F h hF=> ?_,fun f as res F h hF=> ?_,fun g F caps xs h hF=> ?_,fun f g F h hF C hC as res hr=> ?_⟩
 · simp only[X,Option.map_eq_some_iff] at h h'
   obtain⟨p,hp,rfl⟩:=h
   obtain⟨q,hq,hqp⟩:=h'
   have e1:=List.find?_some hp
   have e2:=List.find?_some hq
   obtain⟨i,hi⟩:=List.mem_iff_getElem?.1 (List.mem_of_find?_eq_some hp)
   obtain⟨j,hj⟩:=List.mem_iff_getElem?.1 (List.mem_of_find?_eq_some hq)
   have:i=j:=kN ht (i:=i) (j:=j) (x:=p.2) (by simp[hi]) (by simp[hj,hqp])
   subst this
   rw[hi] at hj;injection hj with hj;subst hj
   simp at e1 e2;exact e1.symm.trans e2
 · simp only[SH,Tm,Option.map_eq_some_iff] at h
   obtain⟨p,hp,rfl⟩:=h
   have e1:=List.find?_some hp
   simp at e1;subst e1
   obtain⟨F',fn,hh,c,k1,k2,k3,k4,k5,k6⟩:=j6.mem h1 p (List.mem_of_find?_eq_some hp)
   obtain rfl:=vy F F' _ hF k1
   exact⟨fn,hh,c,k2,k3,k4,k5,k6⟩
 · simp only[SH,Lq] at h
   split at h
   · rename_i p hp
     have e1:=List.find?_some hp
     simp at e1;subst e1
     obtain⟨F',k1,k2⟩:=pM.mem h2 p (List.mem_of_find?_eq_some hp)
     obtain rfl:=vy F F' _ hF k1
     exact k2 as res h
   · simp at h
 · simp only[SH,F6] at h
   split at h
   · rename_i p hp
     have e1:=List.find?_some hp
     simp at e1;subst e1
     obtain⟨F',k1,k2⟩:=mw.mem h4 p (List.mem_of_find?_eq_some hp)
     obtain rfl:=vy F F' _ hF k1
     exact k2 caps xs h
   · simp at h
 · simp only[SH,CJ,Option.map_eq_some_iff] at h
   obtain⟨p,hp,rfl⟩:=h
   have e1:=List.find?_some hp
   simp at e1;subst e1
   obtain⟨F',k1,k2⟩:=sn.mem h3 p (List.mem_of_find?_eq_some hp)
   obtain rfl:=vy F F' _ hF k1
   exact k2 C hC as res hr
theorem Ap {μ μ':Mu} (h:Le μ μ') (ez: ∀b,¬μ.own b):Below μ.w.heap.size μ.w μ'.w:=
 ⟨h.os,h.tape,h.output,h.size,fun k hk=> (h.cD k hk (ez k)).1⟩
theorem E7 {X:TrEnv} {E:Env} (hE:vu X E) {F g:Nat} (hF:X.jR F=some g) {fn:Func} (tZ:X.P.funcs[F]? =some fn) (tu: (fn.name== "runtime.NumGoroutine")=false) {cd:Code} (lA:fn.body=some cd)
   {args:List V} {b:Bool} (SR:Ev E g args ⟨.bool b,[]⟩) (hp:V.an args=true) {w:World} {vals:List Value} (hv: ∀φ,aj (free X) (still w φ) args vals):
   Calls X.P F vals.toArray w fun e w'=>e= .returned (.bool b)∧Below w.heap.size w w'∧ ∀a,a.block<w.heap.size→w'.frozen? a=w.frozen? a:=by
 obtain⟨n,hn⟩:=SR
 have hs:cY X F args ⟨.bool b,[]⟩:=vv hE n g F args _ hF hn
 have hO: (enter args).O=fun _=>bJ:=rf hp
 have hT: ∀ (t:Nat) (a:V),args[t]? =some a→(enter args).T t=a:=fun t a ha=>by rw[fR hp];simp[List.getD,ha]
 have A8:=hv (fun _=> ⟨0,0,0⟩)
 have hU:=hs (fun _=>False) (0,0) w (fun _=> ⟨0,0,0⟩) vals A8.length.symm (fun t v' A6=>by
   have hl:t<args.length:=by rw[A8.length];exact(List.getElem?_eq_some_iff.1 A6).1
   obtain⟨u,hu,bU⟩:=A8.get (List.getElem?_eq_getElem hl)
   rw[A6] at hu;injection hu with hu;subst hu
   rw[hT t _ (List.getElem?_eq_getElem hl),hO];exact bU) (by
   rw[hO]
   exact⟨fun r es h=>by simp[bJ] at h,fun r1 r2 _ h=>by simp[bJ] at h,fun r h=>by simp[bJ] at h,fun b h=>h.elim⟩)
 have X1: (callFunc F vals.toArray).run X.P w= .ok (.enter F vals.toArray) w:=by
   simp[callFunc,Sem.run_bind,program,Sem.run,tZ,lA]
   simpa using tu
 rw[X1] at hU
 simp only[yz] at hU
 refine Calls.mono hU fun e w' he=> ?_
 cases e with
 | panicked c=>exact he.elim
 | outgrown=>exact he.elim
 | returned val=>
   obtain⟨φ',T',O',v0,refs,k1,k2,k3,k4,k5,k6⟩:=he
   have ez: ∀b,¬ (Mu.mk w (fun _=> ⟨0,0,0⟩) (enter args).O).own b:=fun b=>by rw[hO];rintro⟨r,h,_⟩;simp[bJ] at h
   refine⟨?_,Ap k1 ez,k1.frozen⟩
   · have:=(k4.XU k2 k3).pure rfl
     simp only[ak] at this
     rw[this]
end Go.AM
namespace Go.AM
open Ieee
theorem pN {n k:Nat} (h:n< 2 ^ k) (h0:n≠0):n.log2<k:=(Nat.log2_lt h0).2 h
theorem Cb {mag:Nat}:Toward.even.cut false (mag<<< (52 - mag.log2)) (mag.log2 - 52)≤9007199254740992:=by
 have h1:mag< 2 ^ (mag.log2+1):=Nat.lt_log2_self
 have key:mag<<< (52 - mag.log2) / (1 <<< min (mag.log2 - 52) ((mag<<< (52 - mag.log2)).log2+2)) < 9007199254740992:=by
  by_cases he:mag.log2≤52
  · have e2:mag.log2 - 52=0:=by omega
    rw[e2,Nat.zero_min]
    rw[Nat.shiftLeft_eq,Nat.shiftLeft_eq,Nat.pow_zero,Nat.mul_one,Nat.div_one]
    calc mag*2 ^ (52 - mag.log2) < 2 ^ (mag.log2+1)*2 ^ (52 - mag.log2):=Nat.mul_lt_mul_of_pos_right h1 (Nat.two_pow_pos _)
     _=2 ^ 53:=by rw[←Nat.pow_add];congr 1;omega
     _=9007199254740992:=by decide
  · have e1:52 - mag.log2=0:=by omega
    rw[e1]
    simp only[Nat.shiftLeft_zero]
    rw[Nat.min_eq_left (by omega)]
    simp only[Nat.shiftLeft_eq,Nat.one_mul]
    refine Nat.div_lt_of_lt_mul ?_
    calc mag< 2 ^ (mag.log2+1):=h1
     _=2 ^ (mag.log2 - 52)*2 ^ 53:=by rw[←Nat.pow_add];congr 1;omega
     _=2 ^ (mag.log2 - 52)*9007199254740992:=by congr 1
 unfold Toward.cut
 simp only
 generalize mag<<< (52 - mag.log2) / (1 <<< min (mag.log2 - 52) ((mag<<< (52 - mag.log2)).log2+2))=low at key ⊢
 have hb: ∀b:Bool,low+b.toNat≤9007199254740992:=fun b=>by have:=Bool.toNat_le b;omega
 exact hb _
theorem pd {mag:Nat} {place:Int} (h0:mag≠0) (h1: -1000≤place+mag.log2) (h2:place+mag.log2≤200):
  ∃w:Nat,double.nearest false mag place=w∧w≤4503599627370496*((place+mag.log2+1022).toNat+2):=by
 refine⟨_,rfl,?_⟩
 unfold Format.nearest
 rw[if_neg h0]
 have e1:double.leastPlace= -1074:=by simp[Format.leastPlace,double]
 have e2:double.fractionBits=52:=rfl
 have e3:double.binade=4503599627370496:=by simp[Format.binade,double]
 have e4:max (place+(mag.log2:Int) - (double.fractionBits:Nat)) double.leastPlace=place+mag.log2 - 52:=by
  rw[e1,e2];omega
 rw[e4]
 simp only[Format.word,e1,e3]
 have a1: (place - (place+(mag.log2:Int) - 52)).toNat=52 - mag.log2:=by omega
 have a2: (place+(mag.log2:Int) - 52 - place).toNat=mag.log2 - 52:=by omega
 have a3: (place+(mag.log2:Int) - 52 - -1074).toNat=(place+mag.log2+1022).toNat:=by congr 1;omega
 rw[a1,a2,a3]
 have hk:=Cb (mag:=mag)
 simp only[Bool.false_eq_true,if_false]
 refine Nat.le_trans (Nat.min_le_left _ _) ?_
 rw[Nat.mul_add,Nat.mul_comm]
 exact Nat.add_le_add_left hk _
theorem lp:double.leastPlace= -1074:=by simp[Format.leastPlace,double]
theorem bi:double.binade=4503599627370496:=by simp[Format.binade,double]
theorem sw:double.signWeight=9223372036854775808:=by simp[Format.signWeight,double]
theorem ir:double.infRung=9218868437227405312:=by simp[Format.infRung,Format.binade,double]
theorem vz {w T:Nat} (hT:w≤4503599627370496*(T+2)) (hT2:T≤1290): ∃m p,double.read w= .number false m p∧m< 9007199254740992∧ -1074≤p∧p≤ -1072+(T:Int):=by
 have hq:w / 4503599627370496≤T+2:=Nat.div_le_of_le_mul hT
 have h:w≤4503599627370496*1292:=Nat.le_trans hT (Nat.mul_le_mul_left _ (by omega))
 have bl:w< 9223372036854775808:=Nat.lt_of_le_of_lt h (by decide)
 have fB:w< 9218868437227405312:=Nat.lt_of_le_of_lt h (by decide)
 have h1:w / 9223372036854775808=0:=Nat.div_eq_of_lt bl
 have h2:w % 9223372036854775808=w:=Nat.mod_eq_of_lt bl
 have Cc: (w / 9223372036854775808 % 2==1)=false:=by rw[h1];rfl
 unfold Format.read
 simp only[lp,bi,sw,ir,h2,Cc]
 by_cases hb:w< 4503599627370496
 · simp only[hb,if_true]
   exact⟨w,-1074,rfl,Nat.lt_trans hb (by decide),by decide,by clear h1 h2 Cc hb h bl fB hq hT;omega⟩
 · have hc:=fB
   simp only[hb,hc,if_true,if_false]
   refine⟨4503599627370496+w % 4503599627370496,-1074+((w / 4503599627370496 - 1:Nat):Int),rfl,?_,?_,?_⟩
   · have h9:=Nat.mod_lt w (show 0 < 4503599627370496 by decide)
     clear h1 h2 Cc hc hb h bl fB hT hq
     generalize w % 4503599627370496=r at h9 ⊢
     omega
   · clear h1 h2 Cc hc hb h bl fB hT hq
     generalize w / 4503599627370496 - 1=q
     omega
   · clear h1 h2 Cc hc hb h bl fB hT
     generalize w / 4503599627370496=q at hq ⊢
     omega
theorem nQ (n:Nat): ∀ (todo root:Nat),root*root≤n→Datum.rootFrom n todo root*Datum.rootFrom n todo root≤n
 | 0,root,h=>h
 | todo+1,root,h=>by
   unfold Datum.rootFrom
   by_cases h': (root+1 <<< todo)*(root+1 <<< todo)≤n
   · simp only[h',if_true];exact nQ n todo _ h'
   · simp only[h',if_false];exact nQ n todo _ h
theorem HU { n:Int} (h0:0 <n) (h1:n≤9223372036854775807):
   ∃r m,FloatKind.f64.format.sqrt (FloatKind.f64.nearest n)=some r∧(FloatKind.f64.decode r).toInt .zero=some m∧0≤m∧m≤9223372036854775807:=by
 have Rw:n.natAbs≠0:=by omega
 have ac0:n.natAbs.log2< 63:=pN (by
   have: (2:Nat) ^ 63=9223372036854775808:=by decide
   omega) Rw
 have eN:FloatKind.f64.nearest n=double.nearest false n.natAbs 0:=by
   have:decide (n< 0)=false:=by simp;omega
   simp only[FloatKind.nearest,FloatKind.encode,FloatKind.format,Format.write,this]
 obtain⟨w,hw,RS⟩:=pd (mag:=n.natAbs) (place:=0) Rw (by omega) (by omega)
 obtain⟨m,p,hr,hm,Xv,hp⟩:=vz RS (by clear RS;omega)
 clear RS
 rw[eN,hw]
 have hpb:p≤13:=by clear hm;omega
 have fin: ∀ (mag:Nat) (place:Int),mag≠0→ -1000≤place+mag.log2→place+mag.log2≤59→
    ∃r k,double.write (.number false mag place)=r∧(double.read r).toInt .zero=some k∧0≤k∧k≤9223372036854775807:=by
   intro mag place g0 g1 g2
   obtain⟨w2,zn,RX⟩:=pd (mag:=mag) (place:=place) g0 g1 (by omega)
   obtain⟨m3,p3,XP,hm3,hp3,ac1⟩:=vz RX (by clear RX;omega)
   clear RX
   have hp9:p3≤9:=by omega
   refine⟨w2,_,zn,by rw[XP];rfl,?_⟩
   have ac2:Toward.zero.cut false (m3<<< p3.toNat) (-p3).toNat≤m3<<< p3.toNat:=by
    unfold Toward.cut
    simp only[Bool.toNat_false,Nat.add_zero]
    exact Nat.div_le_self _ _
   have hsh:m3<<< p3.toNat≤m3*512:=by
    rw[Nat.shiftLeft_eq]
    refine Nat.mul_le_mul_left _ ?_
    calc 2 ^ p3.toNat≤2 ^ 9:=Nat.pow_le_pow_right (by omega) (by omega)
      _=512:=by decide
   simp only[signed,Bool.false_eq_true,if_false,Nat.shiftLeft_zero]
   omega
 show ∃r k,(((double.read w).root (double.fractionBits+2)).map double.write)=some r∧(double.read r).toInt .zero=some k∧0≤k∧k≤9223372036854775807
 rw[hr]
 simp only[Datum.root]
 by_cases EF:m=0
 · subst EF
   rw[if_pos rfl]
   exact⟨0,0,by simp[Format.write,Format.nearest,Format.word],by decide,by decide,by decide⟩
 · rw[if_neg EF]
   simp only[Bool.false_eq_true,if_false]
   have e2:double.fractionBits=52:=rfl
   rw[e2]
   have Mq:m.log2< 53:=pN (by
    have: (2:Nat) ^ 53=9007199254740992:=by decide
    omega) EF
   generalize acT:2*(52+2) - m.log2+((p - (2*(52+2) - m.log2:Nat)) % 2).toNat=more
   have hmb:56≤more∧more≤109:=by omega
   generalize hwh:Datum.rootFrom (m<<< more) ((m<<< more).log2 / 2+1) 0=whole
   have hle:whole*whole≤m<<< more:=by rw[←hwh];exact nQ _ _ _ (by simp)
   have hbound:whole< 2 ^ 81:=by
    rw[Nat.shiftLeft_eq] at hle
    have h2:m*2 ^ more< 2 ^ 162:=by
      calc m*2 ^ more< 2 ^ 53*2 ^ more:=Nat.mul_lt_mul_of_pos_right (by
            have: (2:Nat) ^ 53=9007199254740992:=by decide
            omega) (Nat.two_pow_pos _)
       _=2 ^ (53+more):=by rw[←Nat.pow_add]
       _≤2 ^ 162:=Nat.pow_le_pow_right (by omega) (by omega)
    rcases Nat.lt_or_ge whole (2 ^ 81) with h| h
    · exact h
    · have:2 ^ 81*2 ^ 81≤whole*whole:=Nat.mul_le_mul h h
      have e: (2:Nat) ^ 81*2 ^ 81=2 ^ 162:=by rw[←Nat.pow_add]
      omega
   have yy:m<<< more≠0:=by
    rw[Nat.shiftLeft_eq]
    exact Nat.mul_ne_zero EF (by have:=Nat.two_pow_pos more;omega)
   generalize RY:2*whole+(whole*whole !=m<<< more).toNat=KQ
   have ML:KQ≠0:=by
    intro h
    rw[h] at RY
    have hw0:whole=0:=by omega
    subst hw0
    have: (0*0 !=m<<< more)=true:=by simp;exact fun h=>yy h.symm
    rw[this] at RY
    simp at RY
   have Ya:KQ< 2 ^ 83:=by
    have hb: (whole*whole !=m<<< more).toNat≤1:=Bool.toNat_le _
    have e: (2:Nat) ^ 83=4*2 ^ 81:=by decide
    omega
   have CZ:KQ.log2< 83:=pN Ya ML
   obtain⟨r,k,g1,g2,g3,g4⟩:=fin KQ ((p - more) / 2 - 1) ML (by omega) (by omega)
   refine⟨r,k,?_,g2,g3,g4⟩
   simp only[Option.map_some]
   exact congrArg some g1
end Go.AM
