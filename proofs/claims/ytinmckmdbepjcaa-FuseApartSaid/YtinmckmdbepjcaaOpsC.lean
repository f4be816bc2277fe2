/-
  Texts of the proof, joined by program: AmCall2, AmCall3, AmCall4, AmCall5, AmCall6, AmCall7, AmCall8, AmCall9, AmTag, AmSound, AmExt, AmGlue, AmTrod, AmSeat, AmSqrt. Own work.
-/
import Derived.Test.YtinmckmdbepjcaaOpsB
import Derived.Test.YtinmckmdbepjcaaBase
import Derived.Laws.Externs
import Derived.Laws.Cover3
import GoSem.Extern.MathSqrt
import Derived.ProofKit
import Derived.ChangeSame
import Derived.ChangeArms
import Derived.OpenShut
import Derived.Deep.Slices
import Derived.Carry
set_option linter.unusedSimpArgs false
set_option linter.unusedVariables false
namespace Go.AM
open Go Go.RowKit
def vD (P:Program) (r:Result Next) (R:Value→World→Prop):Prop:=
 match r with
 | .ok (.value v) w'=>R v w'
 | .ok (.enter f args) w'=>Calls P f args w' fun| .returned v,B9=>R v B9| _,_=>False
 | _=>False
theorem vD.upon {P:Program} {r:Result Next} {R:Value→World→Prop} (h:vD P r R) {o:Oper} {a:Go.Act} {next:Go.Act→World→Prop} {Q:Go.Exit→Go.Act→World→Prop}
   (hn: ∀v w,R v w→next (a.put o.dst v) w):o.upon P a next Q r:=by
 unfold vD at h
 split at h
 · exact hn _ _ h
 · rw[Oper.upon_enter]
   refine Calls.mono h fun e w' he=> ?_
   cases e with
   | returned v=>exact hn _ _ he
   | panicked c=>exact he.elim
   | outgrown=>exact he.elim
 · exact h.elim
def V.iB:V→Bool
 | .own .. =>true
 | c=>c.aN
theorem qT {c:V} (h:c.aN=true):c.iB=true:=by cases c<;>simp_all[V.aN,V.iB]
inductive du (n:Nat) (σ:St):V→V→List Nat→Prop
 | one {v0 v:V} {rs:List Nat} (h:cF n σ v0=some (v,rs)):du n σ v0 v rs
 | many {vs vs':List V} {rs:List Nat} (h:cr n σ vs=some (vs',rs)):du n σ (.tuple vs) (.tuple vs') rs
def cI (X:TrEnv) (F:FuncId) (args:List V) (res:fK):Prop:=
 ∀ (B:Nat→Prop) (K:Nat×Nat) (w:World) (φ0:Nat→Row) (vals:List Value),vals.length=args.length→
  (∀t v,vals[t]? =some v→al ⟨X,B,K⟩ ⟨w,φ0,(enter args).O⟩ ((enter args).T t) v)→br ⟨X,B,K⟩ ⟨w,φ0,(enter args).O⟩→
  vD X.P ((callFunc F vals.toArray).run X.P w) fun val w'=> ∃φ' T' O' v0 refs,Le ⟨w,φ0,(enter args).O⟩ ⟨w',φ',O'⟩∧br ⟨X,B,K⟩ ⟨w',φ',O'⟩∧
     al ⟨X,B,K⟩ ⟨w',φ',O'⟩ v0 val∧du args.length ⟨T',O'⟩ v0 res.val refs∧distinct refs=true∧bX O' 0 args=some res.outs
inductive Mh (Y:Ctx) (μ:Mu) (n:Nat):V→List Nat→Value→Prop
 | pure {c:V} {val:Value} (hp:c.aE=true) (h:al Y μ c val):Mh Y μ n c [] val
 | sl {r g off len:Nat} {es:List V} {val:Value} (hr:r<n) (bQ: (μ.O r).es=some es) (hg: (μ.O r).gen=g) (hl:off+len≤es.length) (h:al Y μ (.sl r g off len) val):Mh Y μ n (.sl r g off len) [r] val
 | own {r g off len:Nat} {es:List V} {val:Value} (hr:n≤r) (bQ: (μ.O r).es=some es) (gK: (μ.O r).fz=false) (hg: (μ.O r).gen=g) (hl:off+len≤es.length) (hp:V.aq (aO es off len)=true)
    (h:al Y μ (.sl r g off len) val):Mh Y μ n (.own (μ.O r).sz (aO es off len)) [r] val
inductive vE (Y:Ctx) (μ:Mu) (n:Nat):List V→List Nat→List Value→Prop
 | nil:vE Y μ n [] [] []
 | cons {c:V} {rs rs':List Nat} {val:Value} {cs:List V} {vals:List Value} (h:Mh Y μ n c rs val) (hs:vE Y μ n cs rs' vals):vE Y μ n (c::cs) (rs++rs') (val::vals)
section
variable {Y:Ctx} {μ:Mu} {n:Nat}
theorem vE.length {cs:List V} {rs:List Nat} {vals:List Value} (h:vE Y μ n cs rs vals):cs.length=vals.length:=by
 induction h with
 | nil=>rfl
 | cons _ _ ih=>simp[ih]
theorem Bd (ho:br Y μ) {r g off len:Nat} {es:List V} {val:Value} (bQ: (μ.O r).es=some es) (gK: (μ.O r).fz=true) (hg: (μ.O r).gen=g) (hl:off+len≤es.length)
   (hp:V.aq (aO es off len)=true) (h:al Y μ (.sl r g off len) val):al Y μ (.lit (μ.O r).sz (aO es off len)) val:=by
 simp only[al] at h ⊢
 obtain⟨a,cap,rfl,hle,wk,cK⟩:=h
 obtain⟨a0,a1,a2⟩:=cK hg
 obtain⟨q1,q2,q3,q4⟩:=ho.row r es bQ a0
 have nZ: (aO es off len).length=len:=by simp[aO];omega
 have kS: (aO es off len).all V.dh=true:=by
   simp only[List.all_eq_true] at q3 ⊢
   exact fun x hx=> (cn (q3 x (List.mem_of_mem_drop (List.mem_of_mem_take hx)))).1
 by_cases zO:len=0
 · exact⟨hp,kS,a,cap,[],by rw[nZ],by omega,by simp[aO,zO,ak],.inl (by simpa using nZ.trans zO)⟩
 · rcases q4 with q4| ⟨cc,TT,vs,p1,p2,p3,p4⟩
   · omega
   · refine⟨hp,kS,a,cap,(vs.drop off).take len,by rw[nZ],by omega,ak.take _ (ak.drop _ p3),.inr ⟨_,_,a2.resolve_left (by omega),?_,(Array.getElem?_eq_some_iff.1 p1).1,(p4.drop off).take len⟩⟩
     rintro(⟨r',k1,k2,k3,k4⟩ | hb)
     · by_cases e:r'=r
       · subst e;rw[gK] at k2;simp at k2
       · exact ho.inj r' r e k1 (by simp[bQ]) k3 (by omega) k4
     · exact ho.sx r (by simp[bQ]) (by omega) hb
theorem lh (ho:br Y μ) {T:Nat→V} {c c':V} {rs:List Nat} {val:Value} (h:al Y μ c val) (he:bP n ⟨T,μ.O⟩ c=some (c',rs)):Mh Y μ n c' rs val:=by
 unfold bP at he
 split at he
 · rename_i r g off len
   simp only at he
   split at he
   · rename_i es bQ
     split at he
     · rename_i hc
       obtain⟨c1,c2,c3,c4⟩:=hc
       split at he
       · rename_i hr
         simp only[Option.some.injEq,Prod.mk.injEq] at he
         obtain⟨rfl,rfl⟩:=he
         exact .sl hr bQ c1 c2 h
       · rename_i hr
         split at he
         · rename_i gK
           simp only[Option.some.injEq,Prod.mk.injEq] at he
           obtain⟨rfl,rfl⟩:=he
           exact .pure rfl (Bd ho bQ gK c1 c2 c4 h)
         · rename_i gK
           simp only[Option.some.injEq,Prod.mk.injEq] at he
           obtain⟨rfl,rfl⟩:=he
           exact .own (by omega) bQ (by simpa using gK) c1 c2 c4 h
     · simp at he
   · simp at he
 · split at he
   · rename_i hp
     simp only[Option.some.injEq,Prod.mk.injEq] at he
     obtain⟨rfl,rfl⟩:=he
     exact .pure hp h
   · simp at he
theorem gM (ho:br Y μ) {T:Nat→V}: ∀ {cs cY:List V} {rs:List Nat} {vals:List Value},ak Y μ cs vals→bG n ⟨T,μ.O⟩ cs=some (cY,rs)→vE Y μ n cY rs vals
 | [],cY,rs,[],_,he=>by simp[bG] at he;obtain⟨rfl,rfl⟩:=he;exact .nil
 | [],_,_,_::_,h,_=>by simp[ak] at h
 | _::_,_,_,[],h,_=>by simp[ak] at h
 | c::cs,cY,rs,v::vs,h,he=>by
   simp only[ak] at h
   simp only[bG] at he
   split at he
   · rename_i c1 r1 M5 Mi h1 h2
     simp only[Option.some.injEq,Prod.mk.injEq] at he
     obtain⟨rfl,rfl⟩:=he
     exact .cons (lh ho h.1 h1) (gM ho h.2 h2)
   · simp at he
inductive DP (Y:Ctx) (μ:Mu) (n:Nat):V→List Nat→Value→Prop
 | cell {c:V} {rs:List Nat} {val:Value} (h:Mh Y μ n c rs val):DP Y μ n c rs val
 | agg {cs:List V} {rs:List Nat} {vals:Array Value} (hc:cs.all V.iB=true) (h:vE Y μ n cs rs vals.toList):DP Y μ n (.agg cs) rs (.agg vals)
inductive qU (Y:Ctx) (μ:Mu) (n:Nat):List V→List Nat→List Value→Prop
 | nil:qU Y μ n [] [] []
 | cons {c:V} {rs rs':List Nat} {val:Value} {cs:List V} {vals:List Value} (h:DP Y μ n c rs val) (hs:qU Y μ n cs rs' vals):qU Y μ n (c::cs) (rs++rs') (val::vals)
theorem qV {T:Nat→V} {O:Nat→Obj} {c c':V} {rs:List Nat} (he:bP n ⟨T,O⟩ c=some (c',rs)) (hc:c.aN=true):V.iB c'=true:=by
 unfold bP at he
 split at he
 · simp only at he
   split at he
   · split at he
     · split at he
       · simp only[Option.some.injEq,Prod.mk.injEq] at he
         obtain⟨rfl,rfl⟩:=he;rfl
       · split at he
         · simp only[Option.some.injEq,Prod.mk.injEq] at he
           obtain⟨rfl,rfl⟩:=he;rfl
         · simp only[Option.some.injEq,Prod.mk.injEq] at he
           obtain⟨rfl,rfl⟩:=he;rfl
     · simp at he
   · simp at he
 · split at he
   · simp only[Option.some.injEq,Prod.mk.injEq] at he
     obtain⟨rfl,rfl⟩:=he
     exact qT hc
   · simp at he
theorem jP {T:Nat→V} {O:Nat→Obj}: ∀ {cs cY:List V} {rs:List Nat},bG n ⟨T,O⟩ cs=some (cY,rs)→cs.all V.aN=true→
   cY.all V.iB=true
 | [],cY,rs,he,_=>by simp[bG] at he;obtain⟨rfl,rfl⟩:=he;rfl
 | c::cs,cY,rs,he,hc=>by
   simp only[List.all_cons,Bool.and_eq_true] at hc
   simp only[bG] at he
   split at he
   · rename_i c1 r1 M5 Mi h1 h2
     simp only[Option.some.injEq,Prod.mk.injEq] at he
     obtain⟨rfl,rfl⟩:=he
     have i1:=qV h1 hc.1
     have i2:=jP h2 hc.2
     rw[List.all_cons,i2,Bool.and_true]
     exact i1
   · simp at he
theorem vE.cN {cs:List V} {rs:List Nat} {vals:List Value} (h:vE Y μ n cs rs vals) (hp:V.aq cs=true):ak Y μ cs vals∧rs=[]:=by
 induction h with
 | nil=>simp[ak]
 | cons h hs ih=>
   simp only[V.aq,Bool.and_eq_true] at hp
   obtain⟨i1,i2⟩:=ih hp.2
   cases h with
   | pure zQ hv=>simp only[ak];exact⟨⟨hv,i1⟩,by simpa using i2⟩
   | sl=>simp[V.aE] at hp
   | own=>simp[V.aE] at hp
theorem oZ (ho:br Y μ) {T:Nat→V} {v v':V} {rs:List Nat} {val:Value} (h:al Y μ v val) (he:cF n ⟨T,μ.O⟩ v=some (v',rs)):DP Y μ n v' rs val:=by
 unfold cF at he
 split at he
 · rename_i hp
   simp only[Option.some.injEq,Prod.mk.injEq] at he
   obtain⟨rfl,rfl⟩:=he
   exact .cell (.pure hp h)
 · split at he
   · simp only[al] at h
     obtain⟨h1,vs,rfl,h2⟩:=h
     split at he
     · rename_i cY rs' dk
       simp only[Option.some.injEq,Prod.mk.injEq] at he
       obtain⟨rfl,rfl⟩:=he
       exact .agg (jP dk h1) (gM ho h2 dk)
     · simp at he
   · simp only[al] at h
     obtain⟨F,cv,rfl,h1,h2⟩:=h
     split at he
     · rename_i cY rs' dk
       split at he
       · rename_i hp
         simp only[Option.some.injEq,Prod.mk.injEq] at he
         obtain⟨rfl,rfl⟩:=he
         obtain⟨k1,k2⟩:=(gM ho h2 dk).cN hp
         subst k2
         refine .cell (.pure (by simpa [V.aE] using hp) ?_)
         simp only[al]
         exact⟨F,cv,rfl,h1,k1⟩
       · simp at he
     · simp at he
   · exact .cell (lh ho h he)
theorem nA (ho:br Y μ) {T:Nat→V}: ∀ {cs cY:List V} {rs:List Nat} {vals:List Value},ak Y μ cs vals→cr n ⟨T,μ.O⟩ cs=some (cY,rs)→qU Y μ n cY rs vals
 | [],cY,rs,[],_,he=>by simp[cr] at he;obtain⟨rfl,rfl⟩:=he;exact .nil
 | [],_,_,_::_,h,_=>by simp[ak] at h
 | _::_,_,_,[],h,_=>by simp[ak] at h
 | c::cs,cY,rs,v::vs,h,he=>by
   simp only[ak] at h
   simp only[cr] at he
   split at he
   · rename_i c1 r1 M5 Mi h1 h2
     simp only[Option.some.injEq,Prod.mk.injEq] at he
     obtain⟨rfl,rfl⟩:=he
     exact .cons (oZ ho h.1 h1) (nA ho h.2 h2)
   · simp at he
end
end Go.AM
namespace Go.AM
open Go Go.RowKit
def fk (φ:Nat→Row) (ws:List dZ) (i:Nat):Row:=
 match ws with
 | []=> ⟨0,0,0⟩
 | w::ws=>if w.i=i then(match w.fresh with| none=>φ w.r| some _=> ⟨0,0,0⟩) else fk φ ws i
inductive sK (X:Ctx) (μ:Mu) (r0 i:Nat) (rs:List Nat) (ws:List dZ):V→Value→Prop
 | plain {a:V} {v:Value} (hp:V.aE a=true) (hs:iX X μ rs a v):sK X μ r0 i rs ws a v
 | sl {r g off len:Nat} {es:List V} {v:Value} (hw: (⟨i,r,none⟩:dZ) ∈ ws) (bQ: (μ.O r).es=some es) (gK: (μ.O r).fz=false) (cD: (μ.O r).gen=g) (mF:V.aq es=true)
    (gO:off+len≤es.length) (hv:al X μ (.sl r g off len) v):sK X μ r0 i rs ws (.msl (μ.O r).sz es off len) v
 | ptr {r g idx off:Nat} {es:List V} {v:Value} (hw: (⟨i,r,none⟩:dZ) ∈ ws) (bQ: (μ.O r).es=some es) (gK: (μ.O r).fz=false) (cD: (μ.O r).gen=g) (mF:V.aq es=true)
    (hv:al X μ (.ptr r g idx off) v):sK X μ r0 i rs ws (.mptr (μ.O r).sz es idx off) v
 | fresh {sz:Nat} {v:Value} (hw: (⟨i,r0+i,some sz⟩:dZ) ∈ ws) (cP:0 <sz) (hv: ∃a,v= .slice a 0 0):sK X μ r0 i rs ws (.msl sz [] 0 0) v
section
variable {X:Ctx} {μ:Mu} {r0:Nat}
theorem sK.more {i:Nat} {rs rs':List Nat} {ws vf:List dZ} {a:V} {v:Value} (h:sK X μ r0 i rs ws a v) (h1: ∀r ∈ rs,r ∈ rs') (h2: ∀w ∈ ws,w ∈ vf):sK X μ r0 i rs' vf a v:=by
 cases h with
 | plain hp hs=>exact .plain hp (hs.more h1)
 | sl hw a b c d e f=>exact .sl (h2 _ hw) a b c d e f
 | ptr hw a b c d f=>exact .ptr (h2 _ hw) a b c d f
 | fresh hw a b=>exact .fresh (h2 _ hw) a b
theorem j0.at {i:Nat} {as:List V} {vs:List Value} {rs:List Nat} {ws:List dZ} (h:j0 X μ r0 i as vs rs ws):
   as.length=vs.length∧(∀w ∈ ws,i≤w.i)∧(∀t a,as[t]? =some a→ ∃v,vs[t]? =some v∧sK X μ r0 (i+t) rs ws a v):=by
 induction h with
 | nil i=>simp
 | @plain i a v rs rs' as vs ws hp hs h ih=>
   obtain⟨i1,i2,i3⟩:=ih
   refine⟨by simp[i1],fun w hw=>by have:=i2 w hw;omega,fun t b hb=> ?_⟩
   cases t with
   | zero=>simp at hb;subst hb;exact⟨v,by simp,.plain hp (hs.more (by simp+contextual))⟩
   | succ t=>
     obtain⟨v',k1,k2⟩:=i3 t b (by simpa using hb)
     refine⟨v',by simpa using k1,?_⟩
     have e:i+(t+1)=i+1+t:=by omega
     rw[e];exact k2.more (by simp+contextual) (fun w hw=>hw)
 | @sl i r g off len es v rs as vs ws bQ gK cD mF gO hv h ih=>
   obtain⟨i1,i2,i3⟩:=ih
   refine⟨by simp[i1],fun w hw=> ?_,fun t b hb=> ?_⟩
   · rcases List.mem_cons.1 hw with rfl| hw
     · exact Nat.le_refl _
     · have:=i2 w hw;omega
   · cases t with
     | zero=>simp at hb;subst hb;exact⟨v,by simp,.sl (by simp) bQ gK cD mF gO hv⟩
     | succ t=>
       obtain⟨v',k1,k2⟩:=i3 t b (by simpa using hb)
       refine⟨v',by simpa using k1,?_⟩
       have e:i+(t+1)=i+1+t:=by omega
       rw[e];exact k2.more (fun r hr=>hr) (fun w hw=>by simp[hw])
 | @ptr i r g idx off es v rs as vs ws bQ gK cD mF hv h ih=>
   obtain⟨i1,i2,i3⟩:=ih
   refine⟨by simp[i1],fun w hw=> ?_,fun t b hb=> ?_⟩
   · rcases List.mem_cons.1 hw with rfl| hw
     · exact Nat.le_refl _
     · have:=i2 w hw;omega
   · cases t with
     | zero=>simp at hb;subst hb;exact⟨v,by simp,.ptr (by simp) bQ gK cD mF hv⟩
     | succ t=>
       obtain⟨v',k1,k2⟩:=i3 t b (by simpa using hb)
       refine⟨v',by simpa using k1,?_⟩
       have e:i+(t+1)=i+1+t:=by omega
       rw[e];exact k2.more (fun r hr=>hr) (fun w hw=>by simp[hw])
 | @fresh i sz v rs as vs ws cP hv h ih=>
   obtain⟨i1,i2,i3⟩:=ih
   refine⟨by simp[i1],fun w hw=> ?_,fun t b hb=> ?_⟩
   · rcases List.mem_cons.1 hw with rfl| hw
     · exact Nat.le_refl _
     · have:=i2 w hw;omega
   · cases t with
     | zero=>simp at hb;subst hb;exact⟨v,by simp,.fresh (by simp) cP hv⟩
     | succ t=>
       obtain⟨v',k1,k2⟩:=i3 t b (by simpa using hb)
       refine⟨v',by simpa using k1,?_⟩
       have e:i+(t+1)=i+1+t:=by omega
       rw[e];exact k2.more (fun r hr=>hr) (fun w hw=>by simp[hw])
inductive GK:Nat→List dZ→Prop
 | nil (i:Nat):GK i []
 | cons {i:Nat} {w:dZ} {ws:List dZ} (h:i≤w.i) (hs:GK (w.i+1) ws):GK i (w::ws)
theorem GK.le {i j:Nat} {ws:List dZ} (h:GK j ws) (vr:i≤j):GK i ws:=by
 cases h with
 | nil=>exact .nil _
 | cons h hs=>exact .cons (by omega) hs
theorem GK.mem {i:Nat} {ws:List dZ} (h:GK i ws): ∀w ∈ ws,i≤w.i:=by
 induction h with
 | nil=>simp
 | cons h hs ih=>
   intro w hw
   rcases List.mem_cons.1 hw with rfl| hw
   · exact h
   · have:=ih w hw;omega
theorem j0.inc {i:Nat} {as:List V} {vs:List Value} {rs:List Nat} {ws:List dZ} (h:j0 X μ r0 i as vs rs ws):GK i ws:=by
 induction h with
 | nil i=>exact .nil i
 | plain hp hs h ih=>exact ih.le (by omega)
 | sl _ _ _ _ _ _ h ih=>exact .cons (by simp) ih
 | ptr _ _ _ _ _ h ih=>exact .cons (by simp) ih
 | fresh _ _ h ih=>exact .cons (by simp) ih
theorem ij {φ:Nat→Row} {i:Nat} {ws:List dZ} (h:GK i ws): ∀w ∈ ws,fk φ ws w.i=(match w.fresh with| none=>φ w.r| some _=> ⟨0,0,0⟩):=by
 induction h with
 | nil=>simp
 | @cons i w ws h hs ih=>
   intro w' hw
   rcases List.mem_cons.1 hw with rfl| hw
   · simp[fk]
   · have:=hs.mem w' hw
     rw[fk,if_neg (by omega)]
     exact ih w' hw
theorem GK.uniq {i:Nat} {ws:List dZ} (h:GK i ws): ∀w ∈ ws,∀w' ∈ ws,w.i=w'.i→w=w':=by
 induction h with
 | nil=>simp
 | @cons i w ws h hs ih=>
   intro a ha b hb e
   rcases List.mem_cons.1 ha with ha| ha<;>rcases List.mem_cons.1 hb with hb| hb
   · rw[ha,hb]
   · have:=hs.mem b hb;subst ha;omega
   · have:=hs.mem a ha;subst hb;omega
   · exact ih a ha b hb e
theorem o6: ∀ {ws:List dZ},distinct (ws.map (·.r))=true→ ∀w ∈ ws,∀w' ∈ ws,w.r=w'.r→w=w'
 | [],_,_,h,_,_,_=>by simp at h
 | w::ws,hd,a,ha,b,hb,e=>by
   simp only[List.map_cons,distinct,Bool.and_eq_true,Bool.not_eq_true',List.contains_eq_mem,decide_eq_false_iff_not] at hd
   rcases List.mem_cons.1 ha with ha| ha<;>rcases List.mem_cons.1 hb with hb| hb
   · rw[ha,hb]
   · exact absurd (List.mem_map.2 ⟨b,hb,by rw[←e,ha]⟩) hd.1
   · exact absurd (List.mem_map.2 ⟨a,ha,by rw[e,hb]⟩) hd.1
   · exact o6 hd.2 a ha b hb e
def ee (X:Ctx) (μ:Mu) (rs:List Nat) (ws:List dZ) (b:Nat):Prop:=
 X.IU b∨ ∃r,r ∉ rs∧r ∉ ws.map (·.r)∧(μ.O r).es.isSome=true∧(μ.O r).fz=false∧(μ.φ r).cap≠0∧(μ.φ r).cO=b
theorem js {as:List V} {vals:List Value} {rs:List Nat} {ws:List dZ} (hp:j0 X μ r0 0 as vals rs ws) (j:Nat):
   (enter as).O j=bK∨
   (∃r es,(⟨j,r,none⟩:dZ) ∈ ws∧(μ.O r).es=some es∧(μ.O r).fz=false∧V.aq es=true∧((enter as).O j).gen=0∧((enter as).O j).sz=(μ.O r).sz∧((enter as).O j).fz=false∧((enter as).O j).es=some es∧fk μ.φ ws j=μ.φ r)∨
   (∃sz,(⟨j,r0+j,some sz⟩:dZ) ∈ ws∧0 <sz∧((enter as).O j).gen=0∧((enter as).O j).sz=sz∧((enter as).O j).fz=false∧((enter as).O j).es=some []∧fk μ.φ ws j=⟨0,0,0⟩):=by
 obtain⟨hl,-,De⟩:=hp.at
 have hi:=hp.inc
 cases ha:as[j]? with
 | none=>left;simp[enter,ha]
 | some a=>
   obtain⟨v,hv,hA⟩:=De j a ha
   simp only[Nat.zero_add] at hA
   cases hA with
   | plain mF hs=>
     left
     cases a<;>simp[V.aE] at mF<;>simp[enter,ha]
   | @sl r g off len es v hw bQ gK cD mF gO zR=>
     right;left
     exact⟨r,es,hw,bQ,gK,mF,by simp[enter,ha],by simp[enter,ha],by simp[enter,ha],by simp[enter,ha],by have:=ij (φ:=μ.φ) hi _ hw;simpa using this⟩
   | @ptr r g idx off es v hw bQ gK cD mF zR=>
     right;left
     exact⟨r,es,hw,bQ,gK,mF,by simp[enter,ha],by simp[enter,ha],by simp[enter,ha],by simp[enter,ha],by have:=ij (φ:=μ.φ) hi _ hw;simpa using this⟩
   | @fresh sz v hw cP zR=>
     right;right
     exact⟨sz,hw,cP,by simp[enter,ha],by simp[enter,ha],by simp[enter,ha],by simp[enter,ha],by have:=ij (φ:=μ.φ) hi _ hw;simpa using this⟩
theorem wI {as:List V} {vals:List Value} {rs:List Nat} {ws:List dZ} (hp:j0 X μ r0 0 as vals rs ws) {b:Nat} (h: (⟨μ.w,fk μ.φ ws,(enter as).O⟩:Mu).own b):
   ∃i r,(⟨i,r,none⟩:dZ) ∈ ws∧(μ.O r).es.isSome=true∧(μ.O r).fz=false∧(μ.φ r).cap≠0∧(μ.φ r).cO=b:=by
 obtain⟨j,h1,h2,h3,h4⟩:=h
 simp only at h1 h2 h3 h4
 rcases js hp j with h| ⟨r,es,k1,k2,k3,k4,k5,k6,k7,k8,k9⟩ | ⟨sz,k1,k2,k3,k4,k5,k6,k7⟩
 · rw[h] at h1;simp[bK] at h1
 · rw[k9] at h3 h4
   exact⟨j,r,k1,by simp[k2],k3,h3,h4⟩
 · rw[k7] at h3;simp at h3
theorem DQ {as:List V} {vals:List Value} {rs:List Nat} {ws:List dZ} (ho:br X μ) (hp:j0 X μ r0 0 as vals rs ws) (Jb:apart rs (ws.map (·.r))=true) {b:Nat}
   (h:Own ⟨X.toTrEnv,ee X μ rs ws,X.tok⟩ ⟨μ.w,fk μ.φ ws,(enter as).O⟩ b):
   Own X μ b∧ ∀r ∈ rs,(μ.O r).es.isSome=true→(μ.φ r).cap≠0→b≠(μ.φ r).cO:=by
 rcases h with h| h
 · obtain⟨i,r,h1,h2,h3,h4,h5⟩:=wI hp h
   refine⟨.inl ⟨r,h2,h3,h4,h5⟩,fun r' rN k1 k2 e=> ?_⟩
   have cT:r≠r':=by
     rintro rfl
     have:=List.all_eq_true.1 Jb r (List.mem_map.2 ⟨_,h1,rfl⟩)
     simp[rN] at this
   exact ho.inj r r' cT h2 k1 h4 k2 (h5.trans e)
 · rcases h with h| ⟨r,h0,h1,h2,h3,h4,h5⟩
   · refine⟨.inr h,fun r' rN k1 k2 e=>ho.sx r' k1 k2 (e ▸ h)⟩
   · refine⟨.inl ⟨r,h2,h3,h4,h5⟩,fun r' rN k1 k2 e=> ?_⟩
     have cT:r≠r':=fun e=>h0 (e ▸ rN)
     exact ho.inj r r' cT h2 k1 h4 k2 (h5.trans e)
theorem zp {as:List V} {vals:List Value} {rs:List Nat} {ws:List dZ} (ho:br X μ) (hp:j0 X μ r0 0 as vals rs ws) (Jb:apart rs (ws.map (·.r))=true) (hd:distinct (ws.map (·.r))=true):
   vals.length=as.length∧(∀t v,vals[t]? =some v→al ⟨X.toTrEnv,ee X μ rs ws,X.tok⟩ ⟨μ.w,fk μ.φ ws,(enter as).O⟩ ((enter as).T t) v)∧
     br ⟨X.toTrEnv,ee X μ rs ws,X.tok⟩ ⟨μ.w,fk μ.φ ws,(enter as).O⟩:=by
 have ib:=fun b=>DQ (b:=b) ho hp Jb
 obtain⟨hl,-,De⟩:=hp.at
 have hi:=hp.inc
 refine⟨hl.symm,fun t v hv=> ?_,?_⟩
 · have ha:t<as.length:=by rw[hl];exact(List.getElem?_eq_some_iff.1 hv).1
   obtain⟨v',zP,hA⟩:=De t as[t] (List.getElem?_eq_getElem ha)
   rw[hv] at zP;injection zP with zP;subst zP
   have zr:as[t]? =some as[t]:=List.getElem?_eq_getElem ha
   simp only[Nat.zero_add] at hA
   generalize Vk:as[t]=a at hA zr
   cases hA with
   | plain mF hs=>
     have: (enter as).T t=a:=by cases a<;>simp[V.aE] at mF<;>simp[enter,zr]
     rw[this]
     exact hs _ _ rfl ib
   | @sl r g off len es v hw bQ gK cD mF gO zR=>
     have e1: (enter as).T t= .sl t 0 off len:=by simp[enter,zr]
     have e2: ((enter as).O t).gen=0∧((enter as).O t).sz=(μ.O r).sz:=by simp[enter,zr]
     have e3:fk μ.φ ws t=μ.φ r:=by have:=ij (φ:=μ.φ) hi _ hw;simpa using this
     rw[e1]
     simp only[al] at zR ⊢
     obtain⟨a,cap,rfl,q1,q2,q3⟩:=zR
     refine⟨a,cap,rfl,q1,Nat.zero_le _,fun _=> ?_⟩
     rw[e2.2,e3];exact q3 cD
   | @ptr r g idx off es v hw bQ gK cD mF zR=>
     have e1: (enter as).T t= .ptr t 0 idx off:=by simp[enter,zr]
     have e2: ((enter as).O t).gen=0∧((enter as).O t).sz=(μ.O r).sz:=by simp[enter,zr]
     have e3:fk μ.φ ws t=μ.φ r:=by have:=ij (φ:=μ.φ) hi _ hw;simpa using this
     rw[e1]
     simp only[al] at zR ⊢
     obtain⟨a,rfl,q2,q3⟩:=zR
     refine⟨a,rfl,Nat.zero_le _,fun _=> ?_⟩
     rw[e2.2,e3];exact q3 cD
   | @fresh sz v hw cP zR=>
     have e1: (enter as).T t= .sl t 0 0 0:=by simp[enter,zr]
     have e3:fk μ.φ ws t=⟨0,0,0⟩:=by have:=ij (φ:=μ.φ) hi _ hw;simpa using this
     rw[e1]
     obtain⟨a,rfl⟩:=zR
     simp only[al]
     exact⟨a,0,rfl,Nat.le_refl _,Nat.zero_le _,fun _=> ⟨by simp[enter,zr,cP],by rw[e3],.inl rfl⟩⟩
 · refine⟨ fun j es bQ=> ?_,fun j1 j2 cT h1 h2 h3 h4=> ?_,fun j h1 h2 hb=> ?_,fun b hb=> ?_⟩
   · rcases js hp j with h| ⟨r,es',k1,k2,k3,k4,k5,k6,k7,k8,k9⟩ | ⟨sz,k1,k2,k3,k4,k5,k6,k7⟩
     · simp only[h,bK] at bQ;simp at bQ
     · simp only at bQ
       rw[k8] at bQ;injection bQ with bQ;subst bQ
       rcases ho.ok r es' k2 with⟨q1,q2,q3,q4⟩ | ⟨m1,m2,ob,m3,m4⟩
       · refine .inl ?_
         unfold ki
         simp only[k6,k9]
         refine⟨q1,q2,q3,q4.imp id ?_⟩
         rintro⟨c,T,vs,p1,p2,p3,p4⟩
         exact⟨c,T,vs,p1,p2,bS (X:=X) (μ:=μ) (μ':=⟨μ.w,fk μ.φ ws,(enter as).O⟩) rfl (fun b hb=> (ib b hb).1) k4 p3,p4⟩
       · refine .inr ?_
         unfold qF
         simp only[k6,k9]
         refine⟨m1,m2,ob,m3,?_⟩
         rcases m4 with⟨ents,clock,e1,e2,e3⟩ | m4| ⟨mo,since,mC,e1,e2,e3⟩
         · exact .inl ⟨ents,clock,e1,bS (X:=X) (μ:=μ) (μ':=⟨μ.w,fk μ.φ ws,(enter as).O⟩) rfl (fun b hb=> (ib b hb).1) k4 e2,e3⟩
         · exact .inr (.inl m4)
         · subst e2
           refine .inr (.inr ⟨mo,since,mC,e1,rfl,e3.imp id ?_⟩)
           rintro⟨m,ents,l1,l2,l3,l4,l5,l6⟩
           exact⟨m,ents,l1,fun h=>l2 (ib m h).1,l3,l4,l5,bS (X:=X) (μ:=μ) (μ':=⟨μ.w,fk μ.φ ws,(enter as).O⟩) rfl (fun b hb=> (ib b hb).1) (by simpa [V.aq,V.aE] using k4) l6⟩
     · simp only at bQ
       rw[k6] at bQ;injection bQ with bQ;subst bQ
       refine .inl ?_
       unfold ki
       simp only[k4,k7]
       exact⟨k2,by simp,rfl,by simp⟩
   · simp only at h1 h2 h3 h4 ⊢
     rcases js hp j1 with h| ⟨r,es',k1,k2,k3,k4,k5,k6,k7,k8,k9⟩ | ⟨sz,k1,k2,k3,k4,k5,k6,k7⟩
     · rw[h] at h1;simp[bK] at h1
     · rcases js hp j2 with h| ⟨r',PU,l1,l2,l3,l4,l5,l6,l7,l8,l9⟩ | ⟨sz,l1,l2,l3,l4,l5,l6,l7⟩
       · rw[h] at h2;simp[bK] at h2
       · rw[k9] at h3 ⊢
         rw[l9] at h4 ⊢
         refine ho.inj r r' (fun e=> ?_) (by simp[k2]) (by simp[l2]) h3 h4
         have:=o6 hd _ k1 _ l1 e
         injection this with e1;exact cT e1
       · rw[l7] at h4;simp at h4
     · rw[k7] at h3;simp at h3
   · simp only at h1 h2 hb
     rcases js hp j with h| ⟨r,es',k1,k2,k3,k4,k5,k6,k7,k8,k9⟩ | ⟨sz,k1,k2,k3,k4,k5,k6,k7⟩
     · rw[h] at h1;simp[bK] at h1
     · rw[k9] at h2 hb
       rcases hb with hb| ⟨r',g0,g1,g2,g3,g4,g5⟩
       · exact ho.sx r (by simp[k2]) h2 hb
       · have cT:r'≠r:=fun e=>g1 (List.mem_map.2 ⟨_,k1,e.symm⟩)
         exact ho.inj r' r cT g2 (by simp[k2]) g4 h2 g5
     · rw[k7] at h2;simp at h2
   · rcases hb with hb| ⟨r',g0,g1,g2,g3,g4,g5⟩
     · exact ho.blt b hb
     · obtain⟨es',he⟩:=Option.isSome_iff_exists.1 g2
       rw[←g5];exact fE.cO (ho.ok r' es' he) g4
end
end Go.AM
namespace Go.AM
open Go Go.RowKit
section
variable {X X':Ctx} {μ μ':Mu}
mutual
theorem weaken (hX:X'.toTrEnv=X.toTrEnv) (hk:X'.tok=X.tok) (hw:μ'.w=μ.w) (hφ:μ'.φ=μ.φ) (hO: ∀r,(μ'.O r).gen=(μ.O r).gen∧(μ'.O r).sz=(μ.O r).sz) (ho: ∀b,Own X' μ' b→Own X μ b): ∀ {x:V} {v:Value},al X μ x v→al X' μ' x v
 | .bool _,_,h| .int ..,_,h| .float _,_,h| .str _,_,h| .nilp,_,h| .nilfn,_,h| .nili,_,h| .nils,_,h=>by simpa [al] using h
 | .any,_,_=>by simp[al]
 | .own ..,_,h| .msl ..,_,h| .mptr ..,_,h=>by simp[al] at h
 | .agg cs,_,h=>by
   simp only[al] at h ⊢
   obtain⟨h1,vs,rfl,h2⟩:=h
   exact⟨h1,vs,rfl,lU hX hk hw hφ hO ho h2⟩
 | .tuple cs,_,h=>by
   simp only[al] at h ⊢
   obtain⟨vs,rfl,h2⟩:=h
   exact⟨vs,rfl,lU hX hk hw hφ hO ho h2⟩
 | .fn f cs,_,h=>by
   simp only[al] at h ⊢
   obtain⟨F,cv,rfl,h1,h2⟩:=h
   exact⟨F,cv,rfl,by rw[hX];exact h1,lU hX hk hw hφ hO ho h2⟩
 | .iface t x,_,h=>by
   simp only[al] at h ⊢
   obtain⟨F,y,rfl,h1,h2⟩:=h
   exact⟨F,y,rfl,by rw[hX];exact h1,weaken hX hk hw hφ hO ho h2⟩
 | .lit sz xs,_,h=>by
   simp only[al] at h ⊢
   obtain⟨h0,jZ,a,cap,vs,rfl,h1,h2,h3⟩:=h
   refine⟨h0,jZ,a,cap,vs,rfl,h1,lU hX hk hw hφ hO ho h2,h3.imp id ?_⟩
   rintro⟨b,o,rfl,hb,hs,hr⟩
   exact⟨b,o,rfl,fun hh=>hb (ho b hh),by rw[hw];exact hs,by rw[hw];exact hr⟩
 | .sl r g off len,_,h=>by
   simp only[al] at h ⊢
   rw[hφ,(hO r).1,(hO r).2];exact h
 | .ptr r g idx off,_,h=>by
   simp only[al] at h ⊢
   rw[hφ,(hO r).1,(hO r).2];exact h
 | .litk sz xs,_,h=>by
   simp only[al] at h ⊢
   obtain⟨h0,jZ,a,cap,vs,rfl,h1,h2,h3⟩:=h
   refine⟨h0,jZ,a,cap,vs,rfl,h1,lU hX hk hw hφ hO ho h2,h3.imp id ?_⟩
   rintro⟨rfl,hb,hs,hr⟩
   rw[hk]
   exact⟨rfl,fun hh=>hb (ho _ hh),by rw[hw];exact hs,by rw[hw];exact hr⟩
 | .epk i sz e off,_,h=>by
   simp only[al] at h ⊢
   obtain⟨h0,jZ,x,rfl,hb,hs,h1,hr⟩:=h
   rw[hk]
   exact⟨h0,jZ,x,rfl,fun hh=>hb (ho _ hh),by rw[hw];exact hs,weaken hX hk hw hφ hO ho h1,by rw[hw];exact hr⟩
 | .eptr e off,_,h=>by
   simp only[al] at h ⊢
   obtain⟨h0,jZ,b,o,sz,x,rfl,hb,hs,h1,hr⟩:=h
   exact⟨h0,jZ,b,o,sz,x,rfl,fun hh=>hb (ho b hh),by rw[hw];exact hs,weaken hX hk hw hφ hO ho h1,by rw[hw];exact hr⟩
 | .mp r g,_,h| .it r g,_,h=>by
   simp only[al] at h ⊢
   rw[hφ,(hO r).1,(hO r).2];exact h
 | .mlit es,_,h=>by
   simp only[al] at h ⊢
   obtain⟨h0,h⟩:=h
   refine⟨h0,h.imp id ?_⟩
   rintro⟨a,ents,clock,rfl,hb,hs,h1,h2⟩
   exact⟨a,ents,clock,rfl,fun hh=>hb (ho a hh),by rw[hw];exact hs,by rw[hw];exact h1,lU hX hk hw hφ hO ho h2⟩
theorem lU (hX:X'.toTrEnv=X.toTrEnv) (hk:X'.tok=X.tok) (hw:μ'.w=μ.w) (hφ:μ'.φ=μ.φ) (hO: ∀r,(μ'.O r).gen=(μ.O r).gen∧(μ'.O r).sz=(μ.O r).sz) (ho: ∀b,Own X' μ' b→Own X μ b): ∀ {xs:List V} {vs:List Value},ak X μ xs vs→ak X' μ' xs vs
 | [],[],_=>by simp[ak]
 | [],_::_,h=>by simp[ak] at h
 | _::_,[],h=>by simp[ak] at h
 | x::xs,v::vs,h=>by
   simp only[ak] at h ⊢
   exact⟨weaken hX hk hw hφ hO ho h.1,lU hX hk hw hφ hO ho h.2⟩
end
mutual
theorem mr (hX:X'.toTrEnv=X.toTrEnv): ∀ {x:V} {v:Value},V.isScalar x=true→al X μ x v→al X' μ' x v
 | .bool _,_,_,h| .int ..,_,_,h| .float _,_,_,h| .str _,_,_,h| .nilp,_,_,h| .nilfn,_,_,h| .nili,_,_,h| .nils,_,_,h=>by simpa [al] using h
 | .any,_,hp,_| .own ..,_,hp,_| .msl ..,_,hp,_| .mptr ..,_,hp,_| .sl ..,_,hp,_| .ptr ..,_,hp,_| .lit ..,_,hp,_| .eptr ..,_,hp,_| .litk ..,_,hp,_| .epk ..,_,hp,_| .mp ..,_,hp,_| .it ..,_,hp,_| .mlit ..,_,hp,_| .fn ..,_,hp,_| .iface ..,_,hp,_=>by simp[V.isScalar] at hp
 | .agg cs,_,hp,h=>by
   simp only[al] at h ⊢
   obtain⟨h1,vs,rfl,h2⟩:=h
   exact⟨h1,vs,rfl,fA hX (by simpa [V.isScalar] using hp) h2⟩
 | .tuple cs,_,hp,h=>by
   simp only[al] at h ⊢
   obtain⟨vs,rfl,h2⟩:=h
   exact⟨vs,rfl,fA hX (by simpa [V.isScalar] using hp) h2⟩
theorem fA (hX:X'.toTrEnv=X.toTrEnv): ∀ {xs:List V} {vs:List Value},V.bC xs=true→ak X μ xs vs→ak X' μ' xs vs
 | [],[],_,_=>by simp[ak]
 | [],_::_,_,h=>by simp[ak] at h
 | _::_,[],_,h=>by simp[ak] at h
 | x::xs,v::vs,hp,h=>by
   simp only[ak] at h ⊢
   simp only[V.bC,Bool.and_eq_true] at hp
   exact⟨mr hX hp.1 h.1,fA hX hp.2 h.2⟩
end
end
structure Be (Y:Ctx) (μf μ1:Mu) (r j:Nat) (row:Row) (o:Obj):Prop where
 es: ∃es,o.es=some es∧V.aq es=true∧0 <o.sz∧es.length≤row.cap∧es.all (aQ · o.sz)=true∧
  (row.cap=0∨ ∃c T vs,μ1.w.heap[row.cO]? =some (.cells c T (0,0))∧row.base+row.cap*o.sz≤c.size∧ak Y μ1 es vs∧dW μ1.w row.cO row.base o.sz vs)
 live: (μ1.O j).es.isSome=true∧(μ1.O j).fz=false
 cO:row.cap≠0→(μ1.φ j).cap≠0∧row.cO=(μ1.φ j).cO
 gen: (μf.O r).gen<o.gen∨(o.gen=(μf.O r).gen∧row=μf.φ r∧o.sz=(μf.O r).sz)
 sc: (∀es,(μ1.O j).es=some es→V.bC es=true)→ ∀es,o.es=some es→V.bC es=true
structure fm (Y:Ctx) (μf μ1:Mu) (U:Nat→Prop) (A:Nat→Option Nat) (φ:Nat→Row) (O:Nat→Obj):Prop where
 zS: ∀r,A r=none→O r=μf.O r∧φ r=μf.φ r
 xC: ∀r j,A r=some j→Be Y μf μ1 r j (φ r) (O r)∧U j
 inj: ∀r1 r2 j,A r1=some j→A r2=some j→r1=r2
def dM (φ:Nat→Row) (O:Nat→Obj) (φ':Nat→Row) (O':Nat→Obj):Prop:=
 ∀r,(O r).gen≤(O' r).gen∧((O' r).gen=(O r).gen→φ' r=φ r∧(O' r).sz=(O r).sz)
theorem dM.refl (φ:Nat→Row) (O:Nat→Obj):dM φ O φ O:=fun _=> ⟨Nat.le_refl _,fun _=> ⟨rfl,rfl⟩⟩
theorem dM.trans {φ φ' φ'':Nat→Row} {O O' Vx:Nat→Obj} (h:dM φ O φ' O') (k:dM φ' O' φ'' Vx):dM φ O φ'' Vx:=fun r=>by
 obtain⟨h1,h2⟩:=h r
 obtain⟨k1,k2⟩:=k r
 refine⟨Nat.le_trans h1 k1,fun e=> ?_⟩
 obtain⟨a1,a2⟩:=h2 (by omega)
 obtain⟨b1,b2⟩:=k2 (by omega)
 exact⟨b1.trans a1,b2.trans a2⟩
def mu (μ1:Mu) (φ:Nat→Row) (O:Nat→Obj) (i r g:Nat):Prop:=g≤(O r).gen∧((O r).gen=g→φ r=μ1.φ i∧(O r).sz=(μ1.O i).sz)
theorem mu.mono {μ1:Mu} {φ φ':Nat→Row} {O O':Nat→Obj} {i r g:Nat} (h:mu μ1 φ O i r g) (m:dM φ O φ' O'):mu μ1 φ' O' i r g:=by
 obtain⟨m1,m2⟩:=m r
 refine⟨Nat.le_trans h.1 m1,fun e=> ?_⟩
 have:=h.1
 obtain⟨a1,a2⟩:=m2 (by omega)
 obtain⟨b1,b2⟩:=h.2 (by omega)
 exact⟨a1.trans b1,a2.trans b2⟩
theorem fm.take {Y:Ctx} {μf μ1:Mu} {U U':Nat→Prop} {A:Nat→Option Nat} {φ:Nat→Row} {O:Nat→Obj} (h:fm Y μf μ1 U A φ O) {r j:Nat} {row:Row} {o:Obj} (hj: ¬U j) (hU: ∀i,U i→U' i) (Xb:U' j)
  (ht:Be Y μf μ1 r j row o):fm Y μf μ1 U' (dm A r (some j)) (dm φ r row) (dm O r o) where
 zS:=fun r' e=>by
  by_cases e':r'=r
  · subst e';simp[aD] at e
  · rw[aY _ _ e'] at e ⊢;rw[aY _ _ e'];exact h.zS r' e
 xC:=fun r' j' e=>by
  by_cases e':r'=r
  · subst e';simp only[aD] at e ⊢;injection e with e;subst e;exact⟨ht,Xb⟩
  · rw[aY _ _ e'] at e ⊢;rw[aY _ _ e']
    obtain⟨k1,k2⟩:=h.xC r' j' e
    exact⟨k1,hU _ k2⟩
 inj:=fun r1 r2 j' e1 e2=>by
  by_cases q1:r1=r<;>by_cases q2:r2=r
  · rw[q1,q2]
  · subst q1
    simp only[aD] at e1;injection e1 with e1;subst e1
    rw[aY _ _ q2] at e2
    exact absurd (h.xC r2 _ e2).2 hj
  · subst q2
    simp only[aD] at e2;injection e2 with e2;subst e2
    rw[aY _ _ q1] at e1
    exact absurd (h.xC r1 _ e1).2 hj
  · rw[aY _ _ q1] at e1
    rw[aY _ _ q2] at e2
    exact h.inj r1 r2 j' e1 e2
theorem dM.dm {φ:Nat→Row} {O:Nat→Obj} {r:Nat} {row:Row} {o:Obj} (h: (O r).gen<o.gen∨(o.gen=(O r).gen∧row=φ r∧o.sz=(O r).sz)):dM φ O (dm φ r row) (dm O r o):=fun r'=>by
 by_cases e:r'=r
 · subst e
   simp only[aD]
   rcases h with h| ⟨h1,h2,h3⟩
   · exact⟨by omega,fun e=>by omega⟩
   · exact⟨by omega,fun _=> ⟨h2,h3⟩⟩
 · simp[aY _ _ e]
end Go.AM
namespace Go.AM
open Go Go.RowKit
section
variable {X Y:Ctx} {μ μf μ1:Mu} {r0:Nat} {C:bl} {T:Nat→V}
theorem pK (h1:br Y μ1) {r i:Nat} {es:List V} {o:Obj} (h0:0 < (μ1.O i).sz) (bQ: (μ1.O i).es=some es) (gK: (μ1.O i).fz=false) (hp:V.aq es=true) (ho:o.es=some es) (cP:o.sz=(μ1.O i).sz)
  (hg: (μf.O r).gen<o.gen∨(o.gen=(μf.O r).gen∧μ1.φ i=μf.φ r∧o.sz=(μf.O r).sz)):Be Y μf μ1 r i (μ1.φ i) o:=by
 obtain⟨q1,q2,q3,q4⟩:=h1.row i es bQ h0
 refine⟨⟨es,ho,hp,by rw[cP];exact q1,q2,by rw[cP];exact q3,?_⟩,⟨by simp[bQ],gK⟩,fun hc=> ⟨hc,rfl⟩,hg,fun hs es' he=> ?_⟩
 · rw[cP];exact q4
 · rw[ho] at he;injection he with he;subst he;exact hs _ bQ
theorem jl {O:Nat→Obj} {i sz off len:Nat} {mC:List V} {as:List V} {outs:List (Nat×List V)} (h:bX O i (.msl sz mC off len::as)=some outs):
   ∃es jQ,(O i).es=some es∧bX O (i+1) as=some jQ∧(O i).fz=false∧(O i).sz=sz∧V.aq es=true∧outs=((O i).gen,es)::jQ:=by
 simp only[bX] at h
 split at h
 · rename_i es jQ h1 h2
   split at h
   · rename_i hc
     injection h with h
     exact⟨es,jQ,h1,h2,hc.1,hc.2.1,hc.2.2,h.symm⟩
   · simp at h
 · simp at h
theorem o7 {O:Nat→Obj} {i sz off len:Nat} {mC:List V} {as:List V} {outs:List (Nat×List V)} (h:bX O i (.mptr sz mC off len::as)=some outs):
   ∃es jQ,(O i).es=some es∧bX O (i+1) as=some jQ∧(O i).fz=false∧(O i).sz=sz∧V.aq es=true∧outs=((O i).gen,es)::jQ:=by
 simp only[bX] at h
 split at h
 · rename_i es jQ h1 h2
   split at h
   · rename_i hc
     injection h with h
     exact⟨es,jQ,h1,h2,hc.1,hc.2.1,hc.2.2,h.symm⟩
   · simp at h
 · simp at h
theorem nB {O:Nat→Obj} {i:Nat} {a:V} {as:List V} (h:V.aE a=true):bX O i (a::as)=bX O (i+1) as:=by
 cases a<;>simp[V.aE] at h<;>rfl
theorem o8 (h1:br Y μ1) {w0:List dZ} (dL: ∀w ∈ w0,w.fresh=none→(μ1.O w.i).gen=0→μ1.φ w.i=μ.φ w.r) (hφ:μf.φ=μ.φ) (Jc: ∀w ∈ w0,μf.O w.r=μ.O w.r) {S:Nat→Prop} (hS: ∀w ∈ w0,S w.i):
   ∀ {i:Nat} {as:List V} {vs:List Value} {rs:List Nat} {ws:List dZ},j0 X μ r0 i as vs rs ws→ ∀ {outs:List (Nat×List V)} {A:Nat→Option Nat} {φ:Nat→Row} {O:Nat→Obj} {k:List (Nat×Nat×Nat)→Act} {p:V×St},
     bX μ1.O i as=some outs→fm Y μf μ1 (fun j=>j<i∧S j) A φ O→(∀w ∈ ws,w ∈ w0)→(∀w ∈ ws,A w.r=none)→distinct (ws.map (·.r))=true→(cW ws outs k).run C ⟨T,O⟩=some p→
     ∃A' φ' O' gs,(k gs).run C ⟨T,O'⟩=some p∧fm Y μf μ1 (fun j=>j<i+as.length∧S j) A' φ' O'∧dM φ O φ' O'∧(∀w ∈ ws,A' w.r≠none)∧(∀r,A r≠none→A' r≠none)∧
       ∀x ∈ gs,mu μ1 φ' O' x.1 x.2.1 x.2.2:=by
 intro i as vs rs ws hp
 induction hp with
 | nil i=>
   intro outs A φ O k p ho ht _ _ _ aj
   simp[bX] at ho;subst ho
   exact⟨A,φ,O,[],aj,by simpa using ht,dM.refl _ _,by simp,fun _ h=>h,by simp⟩
 | @plain i a v rs rs' as vs ws mF hs h ih=>
   intro outs A φ O k p ho ht hw hA hd aj
   rw[nB mF] at ho
   have ky:fm Y μf μ1 (fun j=>j<i+1∧S j) A φ O:=⟨ht.zS,fun r j e=> ⟨(ht.xC r j e).1,⟨by have:=(ht.xC r j e).2.1;omega,(ht.xC r j e).2.2⟩⟩,ht.inj⟩
   obtain⟨A',φ',O',gs,k1,k2,k3,k4,k5,k6⟩:=ih ho ky hw hA hd aj
   refine⟨A',φ',O',gs,k1,?_,k3,k4,k5,k6⟩
   have e:i+(a::as).length=i+1+as.length:=by simp;omega
   rw[e];exact k2
 | @sl i r g off len mC v rs as vs ws bQ gK cD mF gO hv h ih=>
   intro outs A φ O k p ho ht hw hA hd aj
   obtain⟨es,jQ,o1,o2,o3,o4,o5,rfl⟩:=jl ho
   simp only[cW,Act.run] at aj
   have Jd:=hA ⟨i,r,none⟩ (by simp)
   simp only at Jd
   obtain⟨n1,n2⟩:=ht.zS r Jd
   have hOr:μf.O r=μ.O r:=Jc ⟨i,r,none⟩ (hw _ (by simp))
   have uV: (μf.O r).gen< (O r).gen+(μ1.O i).gen∨((O r).gen+(μ1.O i).gen=(μf.O r).gen∧μ1.φ i=μf.φ r∧(O r).sz=(μf.O r).sz):=by
     rw[n1]
     by_cases hz: (μ1.O i).gen=0
     · right;refine⟨by omega,?_,rfl⟩
       rw[hφ];exact dL ⟨i,r,none⟩ (hw _ (by simp)) rfl hz
     · left;omega
   have Ia:Be Y μf μ1 r i (μ1.φ i) {O r with gen:=(O r).gen+(μ1.O i).gen,es:=some es}:=
     pK h1 (by rw[o4];simp only[al] at hv;obtain⟨_,_,_,_,_,hh⟩:=hv;exact(hh cD).1) o1 o3 o5 rfl (by simp only[n1,hOr];exact o4.symm) uV
   have ky:=ht.take (U':=fun j=>j<i+1∧S j) (by simp) (fun j hj=> ⟨by omega,hj.2⟩) ⟨by simp,hS ⟨i,r,none⟩ (hw _ (by simp))⟩ Ia
   have hm:dM φ O (dm φ r (μ1.φ i)) (dm O r {O r with gen:=(O r).gen+(μ1.O i).gen,es:=some es}):=by
     refine dM.dm ?_
     rw[n2]
     have:=uV
     rw[←n1] at this
     exact this.imp id fun hh=> ⟨hh.1,hh.2.1,hh.2.2⟩
   simp only[List.map_cons,distinct,Bool.and_eq_true,Bool.not_eq_true',List.contains_eq_mem,decide_eq_false_iff_not] at hd
   obtain⟨A',φ',O',gs,k1,k2,k3,k4,k5,k6⟩:=ih o2 ky (fun w jf=>hw w (by simp[jf])) (fun w jf=>by
     have:w.r≠r:=fun e=>hd.1 (List.mem_map.2 ⟨w,jf,e⟩)
     rw[aY _ _ this];exact hA w (by simp[jf])) hd.2 aj
   refine⟨A',φ',O',_,k1,?_,hm.trans k3,fun w jf=> ?_,fun r' rN=>k5 r' ?_,fun x hx=> ?_⟩
   · have e:i+(V.msl (μ.O r).sz mC off len::as).length=i+1+as.length:=by simp;omega
     rw[e];exact k2
   · rcases List.mem_cons.1 jf with rfl| jf
     · exact k5 r (by simp[aD])
     · exact k4 w jf
   · by_cases e:r'=r
     · subst e;simp[aD]
     · rw[aY _ _ e];exact rN
   · rcases List.mem_cons.1 hx with rfl| hx
     · refine mu.mono ⟨?_,fun _=> ?_⟩ k3
       · simp[aD]
       · simp only[aD];exact⟨trivial,by rw[n1,hOr];exact o4.symm⟩
     · exact k6 x hx
 | @ptr i r g idx off mC v rs as vs ws bQ gK cD mF hv h ih=>
   intro outs A φ O k p ho ht hw hA hd aj
   obtain⟨es,jQ,o1,o2,o3,o4,o5,rfl⟩:=o7 ho
   simp only[cW,Act.run] at aj
   have Jd:=hA ⟨i,r,none⟩ (by simp)
   simp only at Jd
   obtain⟨n1,n2⟩:=ht.zS r Jd
   have hOr:μf.O r=μ.O r:=Jc ⟨i,r,none⟩ (hw _ (by simp))
   have uV: (μf.O r).gen< (O r).gen+(μ1.O i).gen∨((O r).gen+(μ1.O i).gen=(μf.O r).gen∧μ1.φ i=μf.φ r∧(O r).sz=(μf.O r).sz):=by
     rw[n1]
     by_cases hz: (μ1.O i).gen=0
     · right;refine⟨by omega,?_,rfl⟩
       rw[hφ];exact dL ⟨i,r,none⟩ (hw _ (by simp)) rfl hz
     · left;omega
   have Ia:Be Y μf μ1 r i (μ1.φ i) {O r with gen:=(O r).gen+(μ1.O i).gen,es:=some es}:=
     pK h1 (by rw[o4];simp only[al] at hv;obtain⟨_,_,_,hh⟩:=hv;exact(hh cD).1) o1 o3 o5 rfl (by simp only[n1,hOr];exact o4.symm) uV
   have ky:=ht.take (U':=fun j=>j<i+1∧S j) (by simp) (fun j hj=> ⟨by omega,hj.2⟩) ⟨by simp,hS ⟨i,r,none⟩ (hw _ (by simp))⟩ Ia
   have hm:dM φ O (dm φ r (μ1.φ i)) (dm O r {O r with gen:=(O r).gen+(μ1.O i).gen,es:=some es}):=by
     refine dM.dm ?_
     rw[n2]
     have:=uV
     rw[←n1] at this
     exact this.imp id fun hh=> ⟨hh.1,hh.2.1,hh.2.2⟩
   simp only[List.map_cons,distinct,Bool.and_eq_true,Bool.not_eq_true',List.contains_eq_mem,decide_eq_false_iff_not] at hd
   obtain⟨A',φ',O',gs,k1,k2,k3,k4,k5,k6⟩:=ih o2 ky (fun w jf=>hw w (by simp[jf])) (fun w jf=>by
     have:w.r≠r:=fun e=>hd.1 (List.mem_map.2 ⟨w,jf,e⟩)
     rw[aY _ _ this];exact hA w (by simp[jf])) hd.2 aj
   refine⟨A',φ',O',_,k1,?_,hm.trans k3,fun w jf=> ?_,fun r' rN=>k5 r' ?_,fun x hx=> ?_⟩
   · have e:i+(V.mptr (μ.O r).sz mC idx off::as).length=i+1+as.length:=by simp;omega
     rw[e];exact k2
   · rcases List.mem_cons.1 jf with rfl| jf
     · exact k5 r (by simp[aD])
     · exact k4 w jf
   · by_cases e:r'=r
     · subst e;simp[aD]
     · rw[aY _ _ e];exact rN
   · rcases List.mem_cons.1 hx with rfl| hx
     · refine mu.mono ⟨?_,fun _=> ?_⟩ k3
       · simp[aD]
       · simp only[aD];exact⟨trivial,by rw[n1,hOr];exact o4.symm⟩
     · exact k6 x hx
 | @fresh i sz v rs as vs ws cP hv h ih=>
   intro outs A φ O k p ho ht hw hA hd aj
   obtain⟨es,jQ,o1,o2,o3,o4,o5,rfl⟩:=jl ho
   simp only[cW,Act.run] at aj
   have Jd:=hA ⟨i,r0+i,some sz⟩ (by simp)
   simp only at Jd
   obtain⟨n1,n2⟩:=ht.zS (r0+i) Jd
   have Ia:Be Y μf μ1 (r0+i) i (μ1.φ i) {gen:=(O (r0+i)).gen+1,sz,arr:=true,fz:=false,es:=some es}:=
     pK h1 (by rw[o4];exact cP) o1 o3 o5 rfl o4.symm (.inl (by simp only[n1];omega))
   have ky:=ht.take (U':=fun j=>j<i+1∧S j) (by simp) (fun j hj=> ⟨by omega,hj.2⟩) ⟨by simp,hS ⟨i,r0+i,some sz⟩ (hw _ (by simp))⟩ Ia
   have hm:dM φ O (dm φ (r0+i) (μ1.φ i)) (dm O (r0+i) {gen:=(O (r0+i)).gen+1,sz,arr:=true,fz:=false,es:=some es}):=
     dM.dm (.inl (by simp))
   simp only[List.map_cons,distinct,Bool.and_eq_true,Bool.not_eq_true',List.contains_eq_mem,decide_eq_false_iff_not] at hd
   obtain⟨A',φ',O',gs,k1,k2,k3,k4,k5,k6⟩:=ih o2 ky (fun w jf=>hw w (by simp[jf])) (fun w jf=>by
     have:w.r≠r0+i:=fun e=>hd.1 (List.mem_map.2 ⟨w,jf,e⟩)
     rw[aY _ _ this];exact hA w (by simp[jf])) hd.2 aj
   refine⟨A',φ',O',_,k1,?_,hm.trans k3,fun w jf=> ?_,fun r' rN=>k5 r' ?_,fun x hx=> ?_⟩
   · have e:i+(V.msl sz [] 0 0::as).length=i+1+as.length:=by simp;omega
     rw[e];exact k2
   · rcases List.mem_cons.1 jf with rfl| jf
     · exact k5 (r0+i) (by simp[aD])
     · exact k4 w jf
   · by_cases e:r'=r0+i
     · subst e;simp[aD]
     · rw[aY _ _ e];exact rN
   · rcases List.mem_cons.1 hx with rfl| hx
     · refine mu.mono ⟨?_,fun _=> ?_⟩ k3
       · simp[aD]
       · simp only[aD];exact⟨trivial,o4.symm⟩
     · exact k6 x hx
theorem Gb {O:Nat→Obj} {i:Nat} {as:List V} {vs:List Value} {rs:List Nat} {ws:List dZ} (hp:j0 X μ r0 i as vs rs ws): ∀ {outs:List (Nat×List V)},bX O i as=some outs→
   ∀w ∈ ws,∃g es,(O w.i).es=some es∧(g,es) ∈ outs:=by
 induction hp with
 | nil i=>intro outs _ w hw;simp at hw
 | plain mF hs h ih=>intro outs ho;rw[nB mF] at ho;exact ih ho
 | @sl i r g off len mC v rs as vs ws bQ gK cD mF gO hv h ih=>
   intro outs ho w hw
   obtain⟨es,jQ,o1,o2,o3,o4,o5,rfl⟩:=jl ho
   rcases List.mem_cons.1 hw with rfl| hw
   · exact⟨_,es,o1,List.mem_cons_self⟩
   · obtain⟨g,es',k1,k2⟩:=ih o2 w hw;exact⟨g,es',k1,by simp[k2]⟩
 | @ptr i r g idx off mC v rs as vs ws bQ gK cD mF hv h ih=>
   intro outs ho w hw
   obtain⟨es,jQ,o1,o2,o3,o4,o5,rfl⟩:=o7 ho
   rcases List.mem_cons.1 hw with rfl| hw
   · exact⟨_,es,o1,List.mem_cons_self⟩
   · obtain⟨g,es',k1,k2⟩:=ih o2 w hw;exact⟨g,es',k1,by simp[k2]⟩
 | @fresh i sz v rs as vs ws cP hv h ih=>
   intro outs ho w hw
   obtain⟨es,jQ,o1,o2,o3,o4,o5,rfl⟩:=jl ho
   rcases List.mem_cons.1 hw with rfl| hw
   · exact⟨_,es,o1,List.mem_cons_self⟩
   · obtain⟨g,es',k1,k2⟩:=ih o2 w hw;exact⟨g,es',k1,by simp[k2]⟩
end
end Go.AM
namespace Go.AM
open Go Go.RowKit
def after (Y:Ctx) (μ1:Mu) (n:Nat) (bL:Bool) (b:Nat):Prop:=
 Y.IU b∨ ∃j,(bL=true∨j<n)∧(μ1.O j).es.isSome=true∧(μ1.O j).fz=false∧(μ1.φ j).cap≠0∧(μ1.φ j).cO=b
def quiet (μ1:Mu) (φ:Nat→Row) (O:Nat→Obj):Mu:=⟨μ1.w,φ,fun r=> {O r with fz:=true}⟩
theorem r4 {μ1:Mu} {φ:Nat→Row} {O:Nat→Obj} {b:Nat}: ¬ (quiet μ1 φ O).own b:=by
 rintro⟨r,_,h,_⟩;simp[quiet] at h
theorem zt {μ1:Mu} {φ φ':Nat→Row} {O O':Nat→Obj} (h:dM φ O φ' O'):Le (quiet μ1 φ O) (quiet μ1 φ' O'):=
 ⟨Nat.le_refl _,fun _ _ _=> ⟨rfl,r4⟩,fun r=> (h r).1,fun r e=> (h r).2 e,rfl,rfl,rfl,fun _ _=>rfl⟩
theorem ja: ∀ {as bs:List Nat},distinct (as++bs)=true→distinct as=true∧distinct bs=true∧ ∀b ∈ bs,b ∉ as
 | [],bs,h=> ⟨rfl,h,fun _ _=>by simp⟩
 | a::as,bs,h=>by
   simp only[List.cons_append,distinct,Bool.and_eq_true,Bool.not_eq_true',List.contains_eq_mem,decide_eq_false_iff_not,List.mem_append,not_or] at h ⊢
   obtain⟨h1,h2⟩:=h
   obtain⟨k1,k2,k3⟩:=ja h2
   refine⟨⟨h1.1,k1⟩,k2,fun b hb=> ?_⟩
   simp only[List.mem_cons,not_or]
   exact⟨fun e=>h1.2 (e ▸ hb),k3 b hb⟩
theorem sL {i r g:Nat}: ∀ {gs:List (Nat×Nat×Nat)},fq i gs=some (r,g)→(i,r,g) ∈ gs
 | [],h=>by simp[fq] at h
 | (j,r',g')::gs,h=>by
   simp only[fq] at h
   split at h
   · rename_i e
     subst e
     simp only[Option.some.injEq,Prod.mk.injEq] at h
     simp[h.1,h.2]
   · exact List.mem_cons_of_mem _ (sL h)
theorem nC: ∀ {es:List V} (n:Nat),V.bC es=true→V.bC (es.take n)=true
 | _,0,_=>by simp[V.bC]
 | [],_+1,_=>by simp[V.bC]
 | x::xs,n+1,h=>by
   simp only[V.bC,Bool.and_eq_true] at h
   simp only[List.take_succ_cons,V.bC,Bool.and_eq_true]
   exact⟨h.1,nC n h.2⟩
theorem nD: ∀ {es:List V} (n:Nat),V.bC es=true→V.bC (es.drop n)=true
 | _,0,h=>by simpa using h
 | [],_+1,_=>by simp[V.bC]
 | x::xs,n+1,h=>by
   simp only[V.bC,Bool.and_eq_true] at h
   simpa using nD n h.2
theorem r5 {es:List V} {off len:Nat} (h:V.bC es=true):V.bC (aO es off len)=true:=nC _ (nD _ h)
section
variable {Y:Ctx} {μf μ1:Mu} {n:Nat} {bL:Bool} {C:bl} {T:Nat→V}
theorem jt {φ:Nat→Row} {O:Nat→Obj} {b:Nat} (h:Own ⟨Y.toTrEnv,after Y μ1 n bL,Y.tok⟩ (quiet μ1 φ O) b):Own Y μ1 b:=by
 rcases h with h| h| ⟨j,_,h1,h2,h3,h4⟩
 · exact absurd h r4
 · exact .inr h
 · exact .inl ⟨j,h1,h2,h3,h4⟩
theorem ik (h1:br Y μ1) {U:Nat→Prop} {A:Nat→Option Nat} {φ:Nat→Row} {O:Nat→Obj} {gs:List (Nat×Nat×Nat)} {c:V} {rs:List Nat} {val:Value} {r:Nat} {k:V→Act} {p:V×St}
   (ht:fm Y μf μ1 U A φ O) (Xc: ∀r,(μf.O r).gen≤(O r).gen) (yY: ∀x ∈ gs,mu μ1 φ O x.1 x.2.1 x.2.2) (he:Mh Y μ1 n c rs val) (hU: ∀j ∈ rs,n≤j→ ¬U j) (aj: (b0 bL r gs c k).run C ⟨T,O⟩=some p):
   ∃A' φ' O' c',(k c').run C ⟨T,O'⟩=some p∧fm Y μf μ1 (fun j=>U j∨(bL=true∧j ∈ rs)) A' φ' O'∧dM φ O φ' O'∧(∀r,A r≠none→A' r≠none)∧
     al ⟨Y.toTrEnv,after Y μ1 n bL,Y.tok⟩ (quiet μ1 φ' O') c' val∧(c.iB=true→c'.aN=true):=by
 have Ia:fm Y μf μ1 (fun j=>U j∨(bL=true∧j ∈ rs)) A φ O:=⟨ht.zS,fun r j e=> ⟨(ht.xC r j e).1,.inl (ht.xC r j e).2⟩,ht.inj⟩
 cases he with
 | pure hp hv=>
   refine⟨A,φ,O,c,?_,Ia,dM.refl _ _,fun _ h=>h,dB (X:=Y) (μ:=μ1) (μ':=quiet μ1 φ O) rfl (fun b=>jt) hp hv,fun hc=> ?_⟩
   · cases c<;>simp[V.aE] at hp<;>simpa [b0,V.aE,hp] using aj
   · cases c<;>simp_all[V.aE,V.iB]
 | @sl j g off len es val hr bQ hg hl hv=>
   simp only[b0] at aj
   split at aj
   · rename_i r' g' Xd
     obtain⟨g1,g2⟩:=yY _ (sL Xd)
     refine⟨A,φ,O,_,aj,Ia,dM.refl _ _,fun _ h=>h,?_,fun _=>rfl⟩
     simp only[al] at hv ⊢
     obtain⟨a,cap,rfl,q1,q2,q3⟩:=hv
     refine⟨a,cap,rfl,q1,g1,fun e=> ?_⟩
     obtain⟨e1,e2⟩:=g2 e
     simp only[quiet] at e1 e2 ⊢
     rw[e1,e2];exact q3 hg
   · exact absurd aj au
 | @own j g off len es val hr bQ gK hg hl hp hv=>
   simp only[b0] at aj
   have a0:0 < (μ1.O j).sz:=by simp only[al] at hv;obtain⟨_,_,_,_,_,hh⟩:=hv;exact(hh hg).1
   obtain⟨q1,q2,q3,q4⟩:=h1.row j es bQ a0
   have nZ: (aO es off len).length=len:=by simp[aO];omega
   have Ue: (aO es off len).all (aQ · (μ1.O j).sz)=true:=by
     simp only[List.all_eq_true] at q3 ⊢
     exact fun x hx=>q3 x (List.mem_of_mem_drop (List.mem_of_mem_take hx))
   have kS: (aO es off len).all V.dh=true:=by
     simp only[List.all_eq_true] at Ue ⊢
     exact fun x hx=> (cn (Ue x hx)).1
   simp only[al] at hv
   obtain⟨a,cap,rfl,s1,s2,s3⟩:=hv
   obtain⟨-,a1,a2⟩:=s3 hg
   cases Vy:bL with
   | true=>
     subst Vy
     rw[if_pos rfl] at aj
     simp only[Act.run] at aj
     have dL: (⟨(μ1.φ j).cO,(μ1.φ j).base+off*(μ1.O j).sz,cap⟩:Row).cap=cap:=rfl
     have Qm:Be Y μf μ1 r j ⟨(μ1.φ j).cO,(μ1.φ j).base+off*(μ1.O j).sz,cap⟩ {gen:=(O r).gen+1,sz:=(μ1.O j).sz,arr:=true,fz:=false,es:=some (aO es off len)}:=by
       refine⟨⟨_,rfl,hp,q1,by simp only[nZ];exact s1,Ue,?_⟩,⟨by simp[bQ],gK⟩,fun hc=> ⟨?_,rfl⟩,.inl ?_,fun hs es' he=> ?_⟩
       · rcases q4 with q4| ⟨cc,TT,vs,p1,p2,p3,p4⟩
         · left;simp only;omega
         · right
           refine⟨cc,TT,(vs.drop off).take len,p1,?_,ak.take _ (ak.drop _ p3),(p4.drop off).take len⟩
           simp only
           rw[←a1,Nat.add_mul] at p2
           omega
       · simp only at hc;omega
       · have:=Xc r;simp only;omega
       · simp only at he;injection he with he;subst he
         exact r5 (hs es bQ)
     have hm:dM φ O (dm φ r ⟨(μ1.φ j).cO,(μ1.φ j).base+off*(μ1.O j).sz,cap⟩) (dm O r {gen:=(O r).gen+1,sz:=(μ1.O j).sz,arr:=true,fz:=false,es:=some (aO es off len)}):=
       dM.dm (.inl (by simp))
     refine⟨_,_,_,_,aj,ht.take (U':=fun i=>U i∨(True∧i ∈ [j])) (hU j (by simp) hr) (fun i hi=> .inl hi) (by simp) Qm |> fun t=>by simpa using t,hm,fun r' rN=> ?_,?_,fun _=>rfl⟩
     · by_cases e:r'=r
       · subst e;simp[aD]
       · rw[aY _ _ e];exact rN
     · simp only[al,quiet,aD]
       refine⟨a,cap,by rw[nZ],by rw[nZ];exact s1,Nat.le_refl _,fun _=> ⟨a0,by omega,a2.imp id fun e=> ?_⟩⟩
       rw[e];simp
   | false=>
     subst Vy
     rw[if_neg (by simp)] at aj
     refine⟨A,φ,O,_,aj,Ia,dM.refl _ _,fun _ h=>h,?_,fun _=>rfl⟩
     simp only[al]
     by_cases zO:len=0
     · exact⟨hp,kS,a,cap,[],by rw[nZ],by omega,by simp[aO,zO,ak],.inl (by simpa using nZ.trans zO)⟩
     · rcases q4 with q4| ⟨cc,TT,vs,p1,p2,p3,p4⟩
       · omega
       · refine⟨hp,kS,a,cap,(vs.drop off).take len,by rw[nZ],by omega,bS (X:=Y) (μ:=μ1) (μ':=quiet μ1 φ O) rfl (fun b=>jt) hp (ak.take _ (ak.drop _ p3)),
           .inr ⟨_,_,a2.resolve_left (by omega),?_,(Array.getElem?_eq_some_iff.1 p1).1,(p4.drop off).take len⟩⟩
         rintro(h| h| ⟨j',k0,k1,k2,k3,k4⟩)
         · exact r4 h
         · exact h1.sx j (by simp[bQ]) (by omega) h
         · have M6:j'<n:=by simpa using k0
           exact h1.inj j' j (by omega) k1 (by simp[bQ]) k3 (by omega) k4
theorem fm.lo {U:Nat→Prop} {A:Nat→Option Nat} {φ:Nat→Row} {O:Nat→Obj} (h:fm Y μf μ1 U A φ O) (r:Nat): (μf.O r).gen≤(O r).gen:=by
 cases e:A r with
 | none=>rw[(h.zS r e).1];exact Nat.le_refl _
 | some j=>
   rcases(h.xC r j e).1.gen with h| ⟨h,_⟩ <;>omega
def xD (Y:Ctx) (μf μ1:Mu) (C:bl) (T:Nat→V) (U:Nat→Prop) (A:Nat→Option Nat) (φ:Nat→Row) (O:Nat→Obj) {α:Type} (k:α→Act) (p:V×St) (G: (Nat→Row)→(Nat→Obj)→α→Prop):Prop:=
 ∃A' φ' O' c',(k c').run C ⟨T,O'⟩=some p∧fm Y μf μ1 U A' φ' O'∧dM φ O φ' O'∧(∀r,A r≠none→A' r≠none)∧G φ' O' c'
theorem fm.more {U U':Nat→Prop} {A:Nat→Option Nat} {φ:Nat→Row} {O:Nat→Obj} (h:fm Y μf μ1 U A φ O) (hU: ∀j,U j→U' j):fm Y μf μ1 U' A φ O:=
 ⟨h.zS,fun r j e=> ⟨(h.xC r j e).1,hU _ (h.xC r j e).2⟩,h.inj⟩
theorem qW (h1:br Y μ1): ∀ {U:Nat→Prop} {A:Nat→Option Nat} {φ:Nat→Row} {O:Nat→Obj} {gs:List (Nat×Nat×Nat)} {cs:List V} {rs:List Nat} {vals:List Value} {r:Nat} {k:List V→Act} {p:V×St},
   fm Y μf μ1 U A φ O→(∀x ∈ gs,mu μ1 φ O x.1 x.2.1 x.2.2)→vE Y μ1 n cs rs vals→(∀j ∈ rs,n≤j→ ¬U j)→distinct rs=true→(cG bL r gs cs k).run C ⟨T,O⟩=some p→
   xD Y μf μ1 C T (fun j=>U j∨(bL=true∧j ∈ rs)) A φ O k p fun φ' O' cY=>ak ⟨Y.toTrEnv,after Y μ1 n bL,Y.tok⟩ (quiet μ1 φ' O') cY vals∧(cs.all V.iB=true→cY.all V.aN=true):=by
 intro U A φ O gs cs rs vals r k p ht yY he hU hd aj
 induction he generalizing U A φ O r k with
 | nil=>exact⟨A,φ,O,[],aj,ht.more fun j h=> .inl h,dM.refl _ _,fun _ h=>h,by simp[ak],fun _=>rfl⟩
 | @cons c rs rs' val cs vals h hs ih=>
   obtain⟨d1,d2,d3⟩:=ja hd
   simp only[cG] at aj
   obtain⟨A1,φ1,O1,c1,k1,k2,k3,k4,k5,k6⟩:=ik h1 ht ht.lo yY h (fun j hj=>hU j (by simp[hj])) aj
   obtain⟨A2,φ2,O2,Uf,m1,m2,m3,m4,m5,m6⟩:=ih k2 (fun x hx=> (yY x hx).mono k3) (fun j hj hn hu=>by
     rcases hu with hu| ⟨_,hu⟩
     · exact hU j (by simp[hj]) hn hu
     · exact d3 j hj hu) d2 k1
   refine⟨A2,φ2,O2,c1::Uf,m1,m2.more fun j hj=> ?_,k3.trans m3,fun r' h=>m4 r' (k4 r' h),?_,?_⟩
   · rcases hj with(hj| ⟨e,hj⟩) | ⟨e,hj⟩
     · exact .inl hj
     · exact .inr ⟨e,by simp[hj]⟩
     · exact .inr ⟨e,by simp[hj]⟩
   · simp only[ak];exact⟨al.mono (zt m3) k5,m5⟩
   · simp only[List.all_cons,Bool.and_eq_true]
     exact fun hc=> ⟨k6 hc.1,m6 hc.2⟩
theorem il: ∀ {cs:List V},V.aq cs=true→cs.all V.iB=true→cs.all V.aN=true
 | [],_,_=>rfl
 | a::as,hp,hc=>by
   simp only[V.aq,Bool.and_eq_true] at hp
   simp only[List.all_cons,Bool.and_eq_true] at hc ⊢
   refine⟨?_,il hp.2 hc.2⟩
   have h1:=hp.1
   have h2:=hc.1
   cases a<;>simp_all[V.aE,V.iB]
theorem o9 (h1:br Y μ1) {U:Nat→Prop} {A:Nat→Option Nat} {φ:Nat→Row} {O:Nat→Obj} {gs:List (Nat×Nat×Nat)} {c:V} {rs:List Nat} {val:Value} {r:Nat} {k:V→Act} {p:V×St}
   (ht:fm Y μf μ1 U A φ O) (yY: ∀x ∈ gs,mu μ1 φ O x.1 x.2.1 x.2.2) (he:DP Y μ1 n c rs val) (hU: ∀j ∈ rs,n≤j→ ¬U j) (hd:distinct rs=true) (aj: (eC bL r gs c k).run C ⟨T,O⟩=some p):
   xD Y μf μ1 C T (fun j=>U j∨(bL=true∧j ∈ rs)) A φ O k p fun φ' O' c'=>al ⟨Y.toTrEnv,after Y μ1 n bL,Y.tok⟩ (quiet μ1 φ' O') c' val:=by
 unfold eC at aj
 split at aj
 · rename_i hp
   refine⟨A,φ,O,c,aj,ht.more fun j h=> .inl h,dM.refl _ _,fun _ h=>h,?_⟩
   cases he with
   | cell h=>
     cases h with
     | pure zQ hv=>exact dB (X:=Y) (μ:=μ1) (μ':=quiet μ1 φ O) rfl (fun b=>jt) hp hv
     | sl=>simp[V.aE] at hp
     | own=>simp[V.aE] at hp
   | @agg cs _ vals hc h=>
     have zQ:V.aq cs=true:=by simpa [V.aE] using hp
     obtain⟨hv,_⟩:=h.cN zQ
     simp only[al]
     exact⟨il zQ hc,_,rfl,bS (X:=Y) (μ:=μ1) (μ':=quiet μ1 φ O) rfl (fun b=>jt) zQ hv⟩
 · cases he with
   | cell h=>
     cases h with
     | pure hp hv=>rename_i Sc;exact absurd hp Sc
     | sl hr bQ hg hl hv=>
       obtain⟨A1,φ1,O1,c1,k1,k2,k3,k4,k5,k6⟩:=ik h1 ht ht.lo yY (.sl hr bQ hg hl hv) hU aj
       exact⟨A1,φ1,O1,c1,k1,k2,k3,k4,k5⟩
     | own hr bQ gK hg hl hp hv=>
       obtain⟨A1,φ1,O1,c1,k1,k2,k3,k4,k5,k6⟩:=ik h1 ht ht.lo yY (.own hr bQ gK hg hl hp hv) hU aj
       exact⟨A1,φ1,O1,c1,k1,k2,k3,k4,k5⟩
   | agg hc h=>
     obtain⟨A1,φ1,O1,c1,k1,k2,k3,k4,k5,k6⟩:=qW h1 ht yY h hU hd aj
     refine⟨A1,φ1,O1,_,k1,k2,k3,k4,?_⟩
     simp only[al]
     exact⟨k6 hc,_,rfl,k5⟩
theorem uY (h1:br Y μ1): ∀ {U:Nat→Prop} {A:Nat→Option Nat} {φ:Nat→Row} {O:Nat→Obj} {gs:List (Nat×Nat×Nat)} {cs:List V} {rs:List Nat} {vals:List Value} {r:Nat} {k:List V→Act} {p:V×St},
   fm Y μf μ1 U A φ O→(∀x ∈ gs,mu μ1 φ O x.1 x.2.1 x.2.2)→qU Y μ1 n cs rs vals→(∀j ∈ rs,n≤j→ ¬U j)→distinct rs=true→(dQ bL r gs cs k).run C ⟨T,O⟩=some p→
   xD Y μf μ1 C T (fun j=>U j∨(bL=true∧j ∈ rs)) A φ O k p fun φ' O' cY=>ak ⟨Y.toTrEnv,after Y μ1 n bL,Y.tok⟩ (quiet μ1 φ' O') cY vals:=by
 intro U A φ O gs cs rs vals r k p ht yY he hU hd aj
 induction he generalizing U A φ O r k with
 | nil=>exact⟨A,φ,O,[],aj,ht.more fun j h=> .inl h,dM.refl _ _,fun _ h=>h,by simp[ak]⟩
 | @cons c rs rs' val cs vals h hs ih=>
   obtain⟨d1,d2,d3⟩:=ja hd
   simp only[dQ] at aj
   obtain⟨A1,φ1,O1,c1,k1,k2,k3,k4,k5⟩:=o9 h1 ht yY h (fun j hj=>hU j (by simp[hj])) d1 aj
   obtain⟨A2,φ2,O2,Uf,m1,m2,m3,m4,m5⟩:=ih k2 (fun x hx=> (yY x hx).mono k3) (fun j hj hn hu=>by
     rcases hu with hu| ⟨_,hu⟩
     · exact hU j (by simp[hj]) hn hu
     · exact d3 j hj hu) d2 k1
   refine⟨A2,φ2,O2,c1::Uf,m1,m2.more fun j hj=> ?_,k3.trans m3,fun r' h=>m4 r' (k4 r' h),?_⟩
   · rcases hj with(hj| ⟨e,hj⟩) | ⟨e,hj⟩
     · exact .inl hj
     · exact .inr ⟨e,by simp[hj]⟩
     · exact .inr ⟨e,by simp[hj]⟩
   · simp only[ak];exact⟨al.mono (zt m3) k5,m5⟩
theorem qU.cN {cs:List V} {rs:List Nat} {vals:List Value} (h:qU Y μ1 n cs rs vals) (hp:V.aq cs=true):ak Y μ1 cs vals∧rs=[]:=by
 induction h with
 | nil=>simp[ak]
 | cons h hs ih=>
   simp only[V.aq,Bool.and_eq_true] at hp
   obtain⟨i1,i2⟩:=ih hp.2
   cases h with
   | cell h=>
     cases h with
     | pure zQ hv=>simp only[ak];exact⟨⟨hv,i1⟩,by simpa using i2⟩
     | sl=>simp[V.aE] at hp
     | own=>simp[V.aE] at hp
   | @agg cs _ vals hc h=>
     have zQ:V.aq cs=true:=by simpa [V.aE] using hp.1
     obtain⟨hv,e⟩:=h.cN zQ
     subst e
     simp only[ak,al]
     exact⟨⟨⟨il zQ hc,_,rfl,hv⟩,i1⟩,by simpa using i2⟩
end
end Go.AM
namespace Go.AM
open Go Go.RowKit
mutual
theorem jR: ∀ {x:V},V.isScalar x=true→V.aE x=true
 | .bool _,_| .int ..,_| .float _,_| .str _,_| .nilp,_| .nilfn,_| .nili,_| .nils,_=>rfl
 | .any,hp| .own ..,hp| .msl ..,hp| .mptr ..,hp| .sl ..,hp| .ptr ..,hp| .lit ..,hp| .eptr ..,hp| .litk ..,hp| .epk ..,hp| .mp ..,hp| .it ..,hp| .mlit ..,hp| .fn ..,hp| .iface ..,hp=>by simp[V.isScalar] at hp
 | .agg cs,hp=>by simpa [V.aE] using fp (by simpa [V.isScalar] using hp)
 | .tuple cs,hp=>by simpa [V.aE] using fp (by simpa [V.isScalar] using hp)
theorem fp: ∀ {xs:List V},V.bC xs=true→V.aq xs=true
 | [],_=>rfl
 | x::xs,hp=>by
   simp only[V.bC,Bool.and_eq_true] at hp
   simp only[V.aq,Bool.and_eq_true]
   exact⟨jR hp.1,fp hp.2⟩
end
section
variable {Y:Ctx} {μf μ1:Mu} {n:Nat} {bL:Bool} {C:bl} {T:Nat→V}
def Ib (Y:Ctx) (μ:Mu) (n:Nat) (v:V) (rs:List Nat) (val:Value):Prop:=
 DP Y μ n v rs val∨ ∃vs us,v= .tuple vs∧val= .tuple us∧qU Y μ n vs rs us.toList
theorem du.Qn (h1:br Y μ1) {T':Nat→V} {v0 v:V} {rs:List Nat} {val:Value} (hv:al Y μ1 v0 val) (h:du n ⟨T',μ1.O⟩ v0 v rs):Ib Y μ1 n v rs val:=by
 cases h with
 | one h=>exact .inl (oZ h1 hv h)
 | many h=>
   simp only[al] at hv
   obtain⟨us,rfl,hv⟩:=hv
   exact .inr ⟨_,us,rfl,rfl,nA h1 hv h⟩
theorem Ib.pure {v:V} {rs:List Nat} {val:Value} (h:Ib Y μ1 n v rs val) (hp:V.aE v=true):al Y μ1 v val:=by
 rcases h with h| ⟨vs,us,rfl,rfl,h⟩
 · have hs:qU Y μ1 n [v] (rs++[]) [val]:= .cons h .nil
   have:=(hs.cN (by simp[V.aq,hp])).1
   simp only[ak] at this
   exact this.1
 · simp only[al]
   exact⟨us,rfl,(h.cN (by simpa [V.aE] using hp)).1⟩
theorem sZ (h1:br Y μ1) {U:Nat→Prop} {A:Nat→Option Nat} {φ:Nat→Row} {O:Nat→Obj} {gs:List (Nat×Nat×Nat)} {c v:V} {rs:List Nat} {val:Value} {r:Nat} {σ':St}
   (ht:fm Y μf μ1 U A φ O) (yY: ∀x ∈ gs,mu μ1 φ O x.1 x.2.1 x.2.2) (he:Ib Y μ1 n c rs val) (hU: ∀j ∈ rs,n≤j→ ¬U j) (hd:distinct rs=true) (aj: (cz bL r gs c .done).run C ⟨T,O⟩=some (v,σ')):
   σ'.T=T∧((V.aE c=true∧v=c∧σ'.O=O∧al Y μ1 c val)∨ ∃A' φ',fm Y μf μ1 (fun j=>U j∨(bL=true∧j ∈ rs)) A' φ' σ'.O∧dM φ O φ' σ'.O∧(∀r,A r≠none→A' r≠none)∧al ⟨Y.toTrEnv,after Y μ1 n bL,Y.tok⟩ (quiet μ1 φ' σ'.O) v val):=by
 unfold cz at aj
 split at aj
 · rename_i hp
   obtain⟨rfl,rfl⟩:=aX aj
   exact⟨rfl,.inl ⟨hp,rfl,rfl,he.pure hp⟩⟩
 · rename_i Sc
   split at aj
   · rename_i vs
     rcases he with he| ⟨vs',us,e,rfl,he⟩
     · cases he with
       | cell h=>
         cases h with
         | pure hp hv=>exact absurd hp Sc
     · injection e with e;subst e
       obtain⟨A1,φ1,O1,c1,k1,k2,k3,k4,k5⟩:=uY h1 ht yY he hU hd aj
       obtain⟨rfl,rfl⟩:=aX k1
       refine⟨rfl,.inr ⟨A1,φ1,k2,k3,k4,?_⟩⟩
       simp only[al]
       exact⟨us,rfl,k5⟩
   · rename_i Xe
     rcases he with he| ⟨vs',us,e,rfl,he⟩
     · obtain⟨A1,φ1,O1,c1,k1,k2,k3,k4,k5⟩:=o9 h1 ht yY he hU hd aj
       obtain⟨rfl,rfl⟩:=aX k1
       exact⟨rfl,.inr ⟨A1,φ1,k2,k3,k4,k5⟩⟩
     · exact absurd e (Xe vs')
end
section
variable {X:Ctx} {μ μ1:Mu} {r0:Nat}
theorem r6 {as:List V} {vals:List Value} {rs:List Nat} {ws:List dZ} (ho:br X μ) (hp:j0 X μ r0 0 as vals rs ws)
   (le:Le ⟨μ.w,fk μ.φ ws,(enter as).O⟩ μ1) (h1:br ⟨X.toTrEnv,ee X μ rs ws,X.tok⟩ μ1) {Of:Nat→Obj} (hf:br X ⟨μ.w,μ.φ,Of⟩) (Jc: ∀w ∈ ws,Of w.r=μ.O w.r)
   {U:Nat→Prop} {A:Nat→Option Nat} {φ:Nat→Row} {O:Nat→Obj} (ht:fm ⟨X.toTrEnv,ee X μ rs ws,X.tok⟩ ⟨μ.w,μ.φ,Of⟩ μ1 U A φ O) (hm:dM μ.φ Of φ O) (hA: ∀w ∈ ws,A w.r≠none)
   (hT: ∀j,U j→((∀es,(μ1.O j).es=some es→V.bC es=true))∨ ∀b,Own X ⟨μ1.w,φ,O⟩ b→Own ⟨X.toTrEnv,ee X μ rs ws,X.tok⟩ μ1 b):
   Le ⟨μ.w,μ.φ,Of⟩ ⟨μ1.w,φ,O⟩∧br X ⟨μ1.w,φ,O⟩:=by
 have Je: ∀b,(⟨μ.w,fk μ.φ ws,(enter as).O⟩:Mu).own b→ ∃w ∈ ws,(Of w.r).es.isSome=true∧(Of w.r).fz=false∧(μ.φ w.r).cap≠0∧(μ.φ w.r).cO=b:=fun b hb=>by
   obtain⟨i,r,k1,k2,k3,k4,k5⟩:=wI hp hb
   have e:=Jc _ k1
   simp only at e
   exact⟨_,k1,by rw[e];exact k2,by rw[e];exact k3,k4,k5⟩
 have Qo: ∀j,(μ1.O j).es.isSome=true∧(μ1.O j).fz=false→(μ1.φ j).cap≠0→μ1.own (μ1.φ j).cO:=fun j hl hc=> ⟨j,hl.1,hl.2,hc,rfl⟩
 have kept: ∀r,A r=none→(Of r).es.isSome=true→(μ.φ r).cap≠0→(μ.φ r).cO<μ.w.heap.size∧μ1.w.heap[(μ.φ r).cO]? =μ.w.heap[(μ.φ r).cO]? ∧ ¬μ1.own (μ.φ r).cO:=fun r hr hs hc=>by
   obtain⟨es,he⟩:=Option.isSome_iff_exists.1 hs
   have bk: (μ.φ r).cO<μ.w.heap.size:=fE.cO (μ:=⟨μ.w,μ.φ,Of⟩) (hf.ok r es he) hc
   have kf: ¬ (⟨μ.w,fk μ.φ ws,(enter as).O⟩:Mu).own (μ.φ r).cO:=fun hb=>by
     obtain⟨w,k1,k2,k3,k4,k5⟩:=Je _ hb
     have cT:w.r≠r:=fun e=>hA w k1 (e ▸ hr)
     exact hf.inj w.r r cT k2 hs k4 hc k5
   obtain⟨l1,l2⟩:=le.cR _ bk kf
   exact⟨bk,l1,l2⟩
 have Ug: ∀b,(⟨μ1.w,φ,O⟩:Mu).own b→(⟨μ.w,μ.φ,Of⟩:Mu).own b∨μ1.own b:=fun b hb=>by
   obtain⟨r,k1,k2,k3,k4⟩:=hb
   simp only at k1 k2 k3 k4
   cases e:A r with
   | none=>
     obtain⟨n1,n2⟩:=ht.zS r e
     rw[n1] at k1 k2
     rw[n2] at k3 k4
     exact .inl ⟨r,k1,k2,k3,k4⟩
   | some j=>
     obtain⟨t,_⟩:=ht.xC r j e
     obtain⟨b1,b2⟩:=t.cO k3
     exact .inr ⟨j,t.live.1,t.live.2,b1,by rw[←b2];exact k4⟩
 have LE:Le ⟨μ.w,μ.φ,Of⟩ ⟨μ1.w,φ,O⟩:=by
   refine⟨le.size,fun b hb kf=> ?_,fun r=> (hm r).1,fun r e=> (hm r).2 e,le.os,le.output,le.tape,le.frozen⟩
   have Uh: ¬ (⟨μ.w,fk μ.φ ws,(enter as).O⟩:Mu).own b:=fun pR=>by
     obtain⟨w,k1,k2,k3,k4,k5⟩:=Je _ pR
     exact kf ⟨w.r,k2,k3,k4,k5⟩
   obtain⟨l1,l2⟩:=le.cR b hb Uh
   exact⟨l1,fun h3=> (Ug b h3).elim kf l2⟩
 refine⟨LE,fun r es bQ=> ?_,fun r1 r2 cT e1 e2 e3 e4 e5=> ?_,fun r k1 k2 hb=> ?_,fun b hb=>Nat.lt_of_lt_of_le (ho.blt b hb) le.size⟩
 · simp only at bQ
   cases e:A r with
   | none=>
     obtain⟨n1,n2⟩:=ht.zS r e
     simp only at n1 n2
     rw[n1] at bQ
     exact fE.cR (r:=r) (r':=r) LE (hf.ok r es bQ) (by simp[n1]) (by simp[n2]) (fun hc=> (kept r e (by simp[bQ]) hc).2.1)
   | some j=>
     obtain⟨t,hu⟩:=ht.xC r j e
     obtain⟨es',s0,s1,s2,s3,s4,s5⟩:=t.es
     rw[bQ] at s0;injection s0 with s0;subst s0
     left
     unfold ki
     simp only
     refine⟨s2,s3,s4,s5.imp id ?_⟩
     rintro⟨c,TT,vs,p1,p2,p3,p4⟩
     refine⟨c,TT,vs,p1,p2,?_,p4⟩
     rcases hT j hu with hs| hs
     · exact fA (X:=⟨X.toTrEnv,ee X μ rs ws,X.tok⟩) (μ:=μ1) (X':=X) (μ':=⟨μ1.w,φ,O⟩) rfl (t.sc hs _ bQ) p3
     · exact bS (X:=⟨X.toTrEnv,ee X μ rs ws,X.tok⟩) (μ:=μ1) (B:=X.IU) (μ':=⟨μ1.w,φ,O⟩) rfl hs s1 p3
 · simp only at e1 e2 e3 e4 e5
   cases a1:A r1 with
   | none=>
     obtain⟨n1,n2⟩:=ht.zS r1 a1
     simp only at n1 n2
     rw[n1] at e1;rw[n2] at e3 e5
     cases a2:A r2 with
     | none=>
       obtain⟨m1,m2⟩:=ht.zS r2 a2
       simp only at m1 m2
       rw[m1] at e2;rw[m2] at e4 e5
       exact hf.inj r1 r2 cT e1 e2 e3 e4 e5
     | some j=>
       obtain⟨t,_⟩:=ht.xC r2 j a2
       obtain⟨b1,b2⟩:=t.cO e4
       exact(kept r1 a1 e1 e3).2.2 (by rw[e5,b2];exact Qo j t.live b1)
   | some j=>
     obtain⟨t,_⟩:=ht.xC r1 j a1
     obtain⟨b1,b2⟩:=t.cO e3
     cases a2:A r2 with
     | none=>
       obtain⟨m1,m2⟩:=ht.zS r2 a2
       simp only at m1 m2
       rw[m1] at e2;rw[m2] at e4 e5
       exact(kept r2 a2 e2 e4).2.2 (by rw[←e5,b2];exact Qo j t.live b1)
     | some j2=>
       obtain⟨t2,_⟩:=ht.xC r2 j2 a2
       obtain⟨c1,c2⟩:=t2.cO e4
       refine h1.inj j j2 (fun e=>cT (ht.inj r1 r2 j a1 (e ▸ a2))) t.live.1 t2.live.1 b1 c1 ?_
       rw[←b2,←c2];exact e5
 · simp only at k1 k2 hb
   cases a1:A r with
   | none=>
     obtain⟨n1,n2⟩:=ht.zS r a1
     simp only at n1 n2
     rw[n1] at k1;rw[n2] at k2 hb
     exact hf.sx r k1 k2 hb
   | some j=>
     obtain⟨t,_⟩:=ht.xC r j a1
     obtain⟨b1,b2⟩:=t.cO k2
     exact h1.sx j t.live.1 b1 (.inl (b2 ▸ hb))
end
end Go.AM
namespace Go.AM
open Go Go.RowKit
section
variable {X:Ctx} {μ μ1:Mu} {r0:Nat} {C:bl} {T:Nat→V}
theorem DR {as:List V} {vals:List Value} {rs:List Nat} {ws:List dZ} (ho:br X μ) (hp:j0 X μ r0 0 as vals rs ws) (Jb:apart rs (ws.map (·.r))=true) (hd:distinct (ws.map (·.r))=true)
   (le:Le ⟨μ.w,fk μ.φ ws,(enter as).O⟩ μ1) (h1:br ⟨X.toTrEnv,ee X μ rs ws,X.tok⟩ μ1) {res:fK} {refs:List Nat} {v0:V} {val:Value} {T':Nat→V} (hv:al ⟨X.toTrEnv,ee X μ rs ws,X.tok⟩ μ1 v0 val)
   (Ui:du as.length ⟨T',μ1.O⟩ v0 res.val refs) (Xf:distinct refs=true) (Gc:bX μ1.O 0 as=some res.outs) {bL:Bool} {r:Nat} {v:V} {σ':St}
   (aj: (if res.val.isScalar &&res.outs.all (fun o=>V.bC o.2) then cW ws res.outs fun gs=>cz bL r gs res.val .done else cA rs (cW ws res.outs fun gs=>cz bL r gs res.val .done)).run C ⟨T,μ.O⟩=some (v,σ')):
   σ'.T=T∧ ∃φ',al X ⟨μ1.w,φ',σ'.O⟩ v val∧Le μ ⟨μ1.w,φ',σ'.O⟩∧br X ⟨μ1.w,φ',σ'.O⟩:=by
 have hR:=Ui.Qn h1 hv
 have hi:=hp.inc
 have dL: ∀w ∈ ws,w.fresh=none→(μ1.O w.i).gen=0→μ1.φ w.i=μ.φ w.r:=fun w hw Qp hg=>by
   have H0: ((enter as).O w.i).gen=0:=by
     rcases js hp w.i with h| ⟨_,_,_,_,_,_,h,_⟩ | ⟨_,_,_,h,_⟩
     · rw[h];rfl
     · exact h
     · exact h
   obtain⟨e1,_⟩:=le.row w.i (by rw[hg];exact H0.symm)
   rw[e1]
   have:=ij (φ:=μ.φ) hi w hw
   rw[Qp] at this
   exact this
 have start: ∀ (Of:Nat→Obj) (S:Nat→Prop),fm ⟨X.toTrEnv,ee X μ rs ws,X.tok⟩ ⟨μ.w,μ.φ,Of⟩ μ1 (fun j=>j< 0∧S j) (fun _=>none) μ.φ Of:=fun Of S=>
   ⟨fun _ _=> ⟨rfl,rfl⟩,fun _ _ e=>by simp at e,fun _ _ _ e=>by simp at e⟩
 split at aj
 · rename_i Vz
   simp only[Bool.and_eq_true] at Vz
   obtain⟨B3,DA⟩:=Vz
   have hS: ∀w ∈ ws,∀es,(μ1.O w.i).es=some es→V.bC es=true:=fun w hw es he=>by
     obtain⟨g,es',k1,k2⟩:=Gb hp Gc w hw
     rw[he] at k1;injection k1 with k1;subst k1
     exact(List.all_eq_true.1 DA) _ k2
   obtain⟨A,φ,O,gs,k1,k2,k3,k4,k5,k6⟩:=o8 (μf:=⟨μ.w,μ.φ,μ.O⟩) h1 dL rfl (fun _ _=>rfl) (S:=fun j=> ∀es,(μ1.O j).es=some es→V.bC es=true) hS hp Gc (start μ.O _) (fun w hw=>hw) (fun _ _=>rfl) hd aj
   have mF:=jR B3
   unfold cz at k1
   rw[if_pos mF] at k1
   obtain⟨rfl,rfl⟩:=aX k1
   obtain⟨b1,b2⟩:=r6 ho hp le h1 (Of:=μ.O) ho (fun _ _=>rfl) k2 k3 k4 (fun j hj=> .inl hj.2)
   exact⟨rfl,φ,mr (X:=⟨X.toTrEnv,ee X μ rs ws,X.tok⟩) (μ:=μ1) (X':=X) (μ':=⟨μ1.w,φ,O⟩) rfl B3 (hR.pure mF),b1,b2⟩
 · obtain⟨Of,f1,f2,f3,f4,f5⟩:=iY (X:=X) (w:=μ.w) (φ:=μ.φ) rs ho aj
   have Jc: ∀w ∈ ws,Of w.r=μ.O w.r:=fun w hw=>f4 _ fun hr=>by
     have:=List.all_eq_true.1 Jb w.r (List.mem_map.2 ⟨w,hw,rfl⟩)
     simp[hr] at this
   obtain⟨A,φ,O,gs,k1,k2,k3,k4,k5,k6⟩:=o8 (μf:=⟨μ.w,μ.φ,Of⟩) h1 dL rfl Jc (S:=fun _=>True) (fun _ _=>trivial) hp Gc (start Of _) (fun w hw=>hw) (fun _ _=>rfl) hd f1
   obtain⟨hT,mH⟩:=sZ h1 k2 k6 hR (fun j _ hn hu=>by have:=hu.1;omega) Xf k1
   have Qq: ∀ {U:Nat→Prop} {A:Nat→Option Nat} {φ:Nat→Row} {O:Nat→Obj},fm ⟨X.toTrEnv,ee X μ rs ws,X.tok⟩ ⟨μ.w,μ.φ,Of⟩ μ1 U A φ O→(∀w ∈ ws,A w.r≠none)→(∀j,U j→bL=true∨j<as.length)→
       ∀b,Own X ⟨μ1.w,φ,O⟩ b→after ⟨X.toTrEnv,ee X μ rs ws,X.tok⟩ μ1 as.length bL b:=by
     intro U A φ O ht hA hU b hb
     rcases hb with⟨r',q1,q2,q3,q4⟩ | hb
     · simp only at q1 q2 q3 q4
       cases e:A r' with
       | none=>
         obtain⟨n1,n2⟩:=ht.zS r' e
         simp only at n1 n2
         rw[n1] at q1 q2;rw[n2] at q3 q4
         have Qh:r' ∉ rs:=fun h=>by rw[f5 r' h] at q2;simp at q2
         have oY:r' ∉ ws.map (·.r):=fun h=>by
          obtain⟨w,hw,e'⟩:=List.mem_map.1 h
          exact hA w hw (by rw[e'];exact e)
         rw[f4 r' Qh] at q1 q2
         exact .inl (.inr ⟨r',Qh,oY,q1,q2,q3,q4⟩)
       | some j=>
         obtain⟨t,hu⟩:=ht.xC r' j e
         obtain⟨b1,b2⟩:=t.cO q3
         exact .inr ⟨j,hU j hu,t.live.1,t.live.2,b1,by rw[←b2];exact q4⟩
     · exact .inl (.inl hb)
   refine⟨hT,?_⟩
   rcases mH with⟨mF,rfl,hO,Xg⟩ | ⟨A',φ',m1,m2,m3,m4⟩
   · have ib:=Qq k2 k4 (fun j hj=> .inr (by have:=hj.1;omega))
     have Cb: ∀b,Own X ⟨μ1.w,φ,O⟩ b→Own ⟨X.toTrEnv,ee X μ rs ws,X.tok⟩ μ1 b:=fun b hb=>jt (φ:=φ) (O:=O) (.inr (ib b hb))
     obtain⟨b1,b2⟩:=r6 ho hp le h1 (Of:=Of) f3 Jc k2 k3 k4 (fun j hj=> .inr Cb)
     rw[hO]
     exact⟨φ,dB (X:=⟨X.toTrEnv,ee X μ rs ws,X.tok⟩) (μ:=μ1) (B:=X.IU) (μ':=⟨μ1.w,φ,O⟩) rfl Cb mF Xg,f2.trans b1,b2⟩
   · have VA: ∀w ∈ ws,A' w.r≠none:=fun w hw=>m3 _ (k4 w hw)
     have ib:=Qq m1 VA (fun j hj=>hj.elim (fun h=> .inr (by have:=h.1;omega)) fun h=> .inl h.1)
     have Cb: ∀b,Own X ⟨μ1.w,φ',σ'.O⟩ b→Own ⟨X.toTrEnv,ee X μ rs ws,X.tok⟩ μ1 b:=fun b hb=>jt (φ:=φ') (O:=σ'.O) (.inr (ib b hb))
     obtain⟨b1,b2⟩:=r6 ho hp le h1 (Of:=Of) f3 Jc m1 (k3.trans m2) VA (fun j hj=> .inr Cb)
     refine⟨φ',weaken (X:=⟨X.toTrEnv,after ⟨X.toTrEnv,ee X μ rs ws,X.tok⟩ μ1 as.length bL,X.tok⟩) (μ:=quiet μ1 φ' σ'.O) (X':=X) (μ':=⟨μ1.w,φ',σ'.O⟩) rfl rfl rfl rfl (fun _=> ⟨rfl,rfl⟩) (fun b hb=> .inr (ib b hb)) m4,f2.trans b1,b2⟩
end
end Go.AM
namespace Go.AM
open Go Go.RowKit
section
variable {X:Ctx} {E:Env} {C:bl} {o:Oper} {a:Go.Act} {T:Nat→V} {μ:Mu} {v:V} {σ':St}
theorem Qr {C:bl} {act:Act}: ∀ {σ σ':St} {v:V},act.run C σ=some (v,σ')→σ'.T=σ.T:=by
 induction act with
 | done u=>intro σ σ' v h;obtain⟨_,rfl⟩:=aX h;rfl
 | fail=>intro σ σ' v h;exact absurd h au
 | my t k ih=>intro σ σ' v h;exact ih _ h
 | bY r k ih=>intro σ σ' v h;exact ih _ h
 | bJ r o k ih=>intro σ σ' v h;have:=ih h;simpa using this
 | call f as k ih=>
   intro σ σ' v h
   simp only[Act.run] at h
   split at h
   · exact ih _ h
   · simp at h
theorem wJ {h:Rel X T a μ} (O:Nat→Obj): ∀ {xs:List Operand} {ys:List aT},qC X xs=some ys→ak X μ (ys.map (bn ⟨T,O⟩)) (xs.map a.eval)
 | [],ys,e=>by simp[qC] at e;subst e;simp[ak]
 | x::xs,ys,e=>by
   simp only[qC] at e
   split at e
   · rename_i y UU h1 h2
     injection e with e;subst e
     simp only[List.map_cons,ak]
     exact⟨aS h h1 O,wJ (h:=h) O h2⟩
   · simp at e
theorem Gd (  hC: ∀f F as res,X.jI F=some f→C f as=some res→cI X.toTrEnv F as res) {h:Hints} {dst:Nat} {c:Call} {oC:q9} (hr:Rel X T a μ) (ho:o.op= .call c) (aP:uw X h dst c=some oC) (AX:oC.ig=true)
   (aj: (av E oC).run C ⟨T,μ.O⟩=some (v,σ')):σ'.T=T∧ ∀ (next:Go.Act→World→Prop) (Q:Go.Exit→Go.Act→World→Prop),
   (∀val w' φ',al X ⟨w',φ',σ'.O⟩ v val→Le μ ⟨w',φ',σ'.O⟩→br X ⟨w',φ',σ'.O⟩→next (a.put o.dst val) w')→o.wp X.P a μ.w next Q:=by
 unfold uw at aP
 split at aP
 · rename_i f Uj
   split at aP
   · rename_i f' Sa hf has
     injection aP with aP;subst aP
     simp only[av,bD] at aj
     split at aj
     · rename_i f0 caps Nh
       rw[qI] at aj
       have Qp:=aS hr hf μ.O
       rw[Nh] at Qp
       simp only[al] at Qp
       obtain⟨F,cv,hF,Mf,Ja⟩:=Qp
       have jN:=(wJ (h:=hr) μ.O has).append Ja
       simp only[rz] at aj
       obtain⟨as,rs,ws,h1,hp⟩:=eS hr.bd jN aj
       split at h1
       · rename_i wx
         simp only[Bool.and_eq_true] at wx
         obtain⟨Jb,hd⟩:=wx
         simp only[Act.run] at h1
         split at h1
         · rename_i res mH
           have hS:=hC f0 F as res Mf mH
           obtain⟨e1,e2,e3⟩:=zp hr.bd hp Jb hd
           have hU:=hS (ee X μ rs ws) X.tok μ.w (fk μ.φ ws) _ e1 e2 e3
           have kj: (execOp a.eval o).run X.P μ.w=(callFunc F (List.map a.eval c.args.toList++cv.toList).toArray).run X.P μ.w:=by
            have Xh: (c.args.map a.eval)++cv=(List.map a.eval c.args.toList++cv.toList).toArray:=by
             apply Array.toList_inj.1;simp
            simp only[execOp,ho,resolve,Uj,hF,Deferred.ofValue,Sem.run_bind]
            rw[←Xh]
            simp[invoke,Sem.run]
           have key: ∀val w',(∃φ' T' O' v0 refs,Le ⟨μ.w,fk μ.φ ws,(enter as).O⟩ ⟨w',φ',O'⟩∧br ⟨X.toTrEnv,ee X μ rs ws,X.tok⟩ ⟨w',φ',O'⟩∧
             al ⟨X.toTrEnv,ee X μ rs ws,X.tok⟩ ⟨w',φ',O'⟩ v0 val∧du as.length ⟨T',O'⟩ v0 res.val refs∧distinct refs=true∧bX O' 0 as=some res.outs)→
             σ'.T=T∧ ∃φ',al X ⟨w',φ',σ'.O⟩ v val∧Le μ ⟨w',φ',σ'.O⟩∧br X ⟨w',φ',σ'.O⟩:=by
            rintro val w' ⟨φ',T',O',v0,refs,k1,k2,k3,k4,k5,k6⟩
            exact DR hr.bd hp Jb hd k1 k2 k3 k4 k5 k6 h1
           have Xi:σ'.T=T:=Qr h1
           refine⟨Xi,fun next Q hn=> ?_⟩
           unfold Oper.wp
           rw[kj]
           exact hU.upon fun val w' hv=>by
            obtain⟨_,φ',q1,q2,q3⟩:=key val w' hv
            exact hn val w' φ' q1 q2 q3
         · simp at h1
       · exact absurd h1 au
     · exact absurd aj au
   · simp at aP
 · simp at aP
 · rename_i b hc
   exfalso
   revert aP
   split<;> (try split) <;> (try split) <;> (try split) <;>simp<;> (try (intro e;subst e;simp[q9.ig] at AX)) <;> (try (intros;subst_vars;simp[q9.ig] at AX)) <;> (try (rintro rfl;simp[q9.ig] at AX))
   all_goals (split at AX<;>first| (simp at AX;done) | (split at AX<;>simp at AX) | (rename_i h9;split at h9<;>simp at h9))
theorem xE {op:BinOp} {t:TypeId} {x y:aT} {oC:q9} (h:BV X op t x y=some oC):oC.ig=false:=by
 unfold BV at h
 repeat' split at h
 all_goals first
  | (injection h with h;subst h;rfl)
  | (simp only[Option.map_eq_some_iff] at h;obtain⟨_,_,rfl⟩:=h;rfl)
  | (simp at h;done)
theorem pL {α:Type} {x:Option α} {f:α→q9} {oC:q9} (h:x.map f=some oC) (hf: ∀a,(f a).ig=false):oC.ig=false:=by
 cases x with
 | none=>simp at h
 | some a=>simp at h;subst h;exact hf a
theorem vF {h:Hints} {dst:Nat} {x:Operand} {oC:q9} (ht:uv X h dst x=some oC):oC.ig=false:=by
 unfold uv at ht
 split at ht
 · injection ht with ht;subst ht;rfl
 · split at ht
   · exact pL ht fun _=>rfl
   · exact pL ht fun _=>rfl
theorem zu {h:Hints} {dst:Nat} {op:Op} {oC:q9} (hn: ∀c,op≠ .call c) (aP:vy X h dst op=some oC):oC.ig=false:=by
 unfold vy at aP
 split at aP
 all_goals try exact absurd rfl (hn _)
 all_goals
  repeat' split at aP
  all_goals first
   | (injection aP with aP;subst aP;rfl)
   | (injection aP with aP;subst aP;split<;>rfl)
   | exact pL aP fun _=>rfl
   | exact xE aP
   | exact vF aP
   | (exfalso;simp at aP;done)
theorem Bf (mE: ∀t1 t2 k,X.iU t1=some k→X.iU t2=some k→t1=t2) (hC: ∀f F as res,X.jI F=some f→C f as=some res→cI X.toTrEnv F as res):nu X E C:=by
 intro h dst o oC a T μ v σ' hr aP aj
 cases hc:oC.ig with
 | true=>
   cases dX:o.op with
   | call c=>
     rw[dX] at aP
     simp only[vy] at aP
     exact Gd hC hr dX aP hc aj
   | _=>
     have:=zu (by rw[dX];simp) aP
     rw[this] at hc;simp at hc
 | false=>
   obtain⟨hT,val,w',φ',zw,h1,h2,h3⟩:=FU mE hr aP hc aj
   refine⟨hT,fun next Q hn=> ?_⟩
   unfold Oper.wp
   rcases zw with zw| ⟨zw,rfl⟩
   · rw[zw];exact hn _ _ _ h1 h2 h3
   · rw[zw];exact hn _ _ _ h1 h2 h3
end
end Go.AM
namespace Go.AM
open Go Go.RowKit
theorem lW: ∀l:List V,V.erases l=l.map V.erase
 | []=>rfl
 | v::vs=>by simp only[V.erases,List.map_cons,lW vs]
theorem dC (l:List V): (V.erases l).length=l.length:=by rw[lW];simp
theorem qX (v:V):v.erase.aN=v.aN:=by cases v<;>rfl
theorem zx (v:V):v.erase.isAgg=v.isAgg:=by cases v<;>rfl
theorem jS (v:V):v.erase.dh=v.dh:=by unfold V.dh;rw[zx,qX]
theorem zy (v:V):v.erase.cells=V.erases v.cells:=by cases v<;>rfl
theorem vG (v:V) (sz:Nat):aQ v.erase sz=aQ v sz:=by unfold aQ;rw[zy,dC,jS]
theorem jT {p:V→Bool} (hp: ∀v,p v.erase=p v): ∀l:List V,(V.erases l).all p=l.all p
 | []=>rfl
 | v::vs=>by simp only[V.erases,List.all_cons,hp,jT hp vs]
mutual
theorem eJ: ∀v:V,v.erase.aE=v.aE
 | .agg cs=>by simp only[V.erase,V.aE];exact cL cs
 | .tuple cs=>by simp only[V.erase,V.aE];exact cL cs
 | .mlit es=>by simp only[V.erase,V.aE];exact cL es
 | .fn f cs=>by simp only[V.erase,V.aE];exact cL cs
 | .iface t v=>by simp only[V.erase,V.aE];exact eJ v
 | .litk .. | .epk .. | .lit .. | .own .. | .eptr .. | .msl .. | .mptr .. | .bool _| .int .. | .float _| .str _| .nilp| .nilfn| .nili| .nils| .sl .. | .ptr .. | .mp .. | .it .. | .any=>rfl
theorem cL: ∀l:List V,V.aq (V.erases l)=V.aq l
 | []=>rfl
 | v::vs=>by simp only[V.erases,V.aq,eJ v,cL vs]
end
theorem kB (es:List V) (off len:Nat):aO (V.erases es) off len=V.erases (aO es off len):=by
 simp only[aO,lW,List.map_take,List.map_drop]
section
variable {X X':Ctx} {μ μ':Mu}
mutual
theorem al.erase (hX:X'.toTrEnv=X.toTrEnv) (hw:μ'.w=μ.w) (hφ:μ'.φ=μ.φ) (hO: ∀r,(μ'.O r).gen=(μ.O r).gen∧(μ'.O r).sz=(μ.O r).sz) (ho: ∀b,Own X' μ' b→Own X μ b): ∀ {x:V} {v:Value},al X μ x v→al X' μ' x.erase v
 | .bool _,_,h| .int ..,_,h| .float _,_,h| .str _,_,h| .nilp,_,h| .nilfn,_,h| .nili,_,h| .nils,_,h=>by simpa [V.erase,al] using h
 | .any,_,_=>by simp[V.erase,al]
 | .own ..,_,h| .msl ..,_,h| .mptr ..,_,h=>by simp[al] at h
 | .agg cs,_,h=>by
   simp only[V.erase,al] at h ⊢
   obtain⟨h1,vs,rfl,h2⟩:=h
   exact⟨by rw[jT qX];exact h1,vs,rfl,ak.erase hX hw hφ hO ho h2⟩
 | .tuple cs,_,h=>by
   simp only[V.erase,al] at h ⊢
   obtain⟨vs,rfl,h2⟩:=h
   exact⟨vs,rfl,ak.erase hX hw hφ hO ho h2⟩
 | .fn f cs,_,h=>by
   simp only[V.erase,al] at h ⊢
   obtain⟨F,cv,rfl,h1,h2⟩:=h
   exact⟨F,cv,rfl,by rw[hX];exact h1,ak.erase hX hw hφ hO ho h2⟩
 | .iface t x,_,h=>by
   simp only[V.erase,al] at h ⊢
   obtain⟨F,y,rfl,h1,h2⟩:=h
   exact⟨F,y,rfl,by rw[hX];exact h1,al.erase hX hw hφ hO ho h2⟩
 | .lit sz xs,_,h=>by
   simp only[V.erase,al] at h ⊢
   obtain⟨h0,jZ,a,cap,vs,rfl,h1,h2,h3⟩:=h
   refine⟨by rw[cL];exact h0,by rw[jT jS];exact jZ,a,cap,vs,by rw[dC],by rw[dC];exact h1,ak.erase hX hw hφ hO ho h2,h3.imp (fun h=>by rw[h];rfl) ?_⟩
   rintro⟨b,o,rfl,hb,hs,hr⟩
   exact⟨b,o,rfl,fun hh=>hb (ho b hh),by rw[hw];exact hs,by rw[hw];exact hr⟩
 | .litk sz xs,_,h=>by
   simp only[V.erase,al] at h ⊢
   obtain⟨h0,jZ,a,cap,vs,rfl,h1,h2,h3⟩:=h
   refine⟨by rw[cL];exact h0,by rw[jT jS];exact jZ,a,cap,vs,by rw[dC],by rw[dC];exact h1,ak.erase hX hw hφ hO ho h2,h3.imp (fun h=>by rw[h];rfl) ?_⟩
   rintro⟨rfl,hb,hs,hr⟩
   exact⟨_,_,rfl,fun hh=>hb (ho _ hh),by rw[hw];exact hs,by rw[hw];exact hr⟩
 | .sl r g off len,_,h=>by
   simp only[V.erase,al] at h ⊢
   rw[hφ,(hO r).1,(hO r).2];exact h
 | .ptr r g idx off,_,h=>by
   simp only[V.erase,al] at h ⊢
   rw[hφ,(hO r).1,(hO r).2];exact h
 | .eptr e off,_,h=>by
   simp only[V.erase,al] at h ⊢
   obtain⟨h0,jZ,b,o,sz,x,rfl,hb,hs,h1,hr⟩:=h
   exact⟨by rw[eJ];exact h0,by rw[jS];exact jZ,b,o,sz,x,rfl,fun hh=>hb (ho b hh),by rw[hw];exact hs,al.erase hX hw hφ hO ho h1,by rw[hw];exact hr⟩
 | .epk i sz e off,_,h=>by
   simp only[V.erase,al] at h ⊢
   obtain⟨h0,jZ,x,rfl,hb,hs,h1,hr⟩:=h
   exact⟨by rw[eJ];exact h0,by rw[jS];exact jZ,_,X.tok.2+i*sz,sz,x,rfl,fun hh=>hb (ho _ hh),by rw[hw];exact hs,al.erase hX hw hφ hO ho h1,by rw[hw];exact hr⟩
 | .mp r g,_,h| .it r g,_,h=>by
   simp only[V.erase,al] at h ⊢
   rw[hφ,(hO r).1,(hO r).2];exact h
 | .mlit es,_,h=>by
   simp only[V.erase,al] at h ⊢
   obtain⟨h0,h⟩:=h
   refine⟨by rw[cL];exact h0,h.imp (fun h=> ⟨by rw[h.1];rfl,h.2⟩) ?_⟩
   rintro⟨a,ents,clock,rfl,hb,hs,h1,h2⟩
   exact⟨a,ents,clock,rfl,fun hh=>hb (ho a hh),by rw[hw];exact hs,by rw[hw];exact h1,ak.erase hX hw hφ hO ho h2⟩
theorem ak.erase (hX:X'.toTrEnv=X.toTrEnv) (hw:μ'.w=μ.w) (hφ:μ'.φ=μ.φ) (hO: ∀r,(μ'.O r).gen=(μ.O r).gen∧(μ'.O r).sz=(μ.O r).sz) (ho: ∀b,Own X' μ' b→Own X μ b): ∀ {xs:List V} {vs:List Value},ak X μ xs vs→ak X' μ' (V.erases xs) vs
 | [],[],_=>by simp[V.erases,ak]
 | [],_::_,h=>by simp[ak] at h
 | _::_,[],h=>by simp[ak] at h
 | x::xs,v::vs,h=>by
   simp only[V.erases,ak] at h ⊢
   exact⟨al.erase hX hw hφ hO ho h.1,ak.erase hX hw hφ hO ho h.2⟩
end
end
def dA (O:Nat→Obj):Nat→Obj:=fun r=> {O r with es:=(O r).es.map V.erases}
section
variable {X:TrEnv} {B:Nat→Prop} {K K':Nat×Nat} {w:World} {φ:Nat→Row} {O:Nat→Obj}
theorem lX {b:Nat}: (Mu.mk w φ (dA O)).own b↔(Mu.mk w φ O).own b:=by
 simp only[Mu.own,dA,Option.isSome_map]
theorem wK {x:V} {v:Value} (h:al ⟨X,B,K⟩ ⟨w,φ,O⟩ x v):al ⟨X,B,K'⟩ ⟨w,φ,dA O⟩ x.erase v:=
 al.erase (X:=⟨X,B,K⟩) (X':=⟨X,B,K'⟩) (μ:=⟨w,φ,O⟩) (μ':=⟨w,φ,dA O⟩) rfl rfl rfl (fun _=> ⟨rfl,rfl⟩) (fun b hb=>hb.imp lX.1 id) h
theorem pM {xs:List V} {vs:List Value} (h:ak ⟨X,B,K⟩ ⟨w,φ,O⟩ xs vs):ak ⟨X,B,K'⟩ ⟨w,φ,dA O⟩ (V.erases xs) vs:=
 ak.erase (X:=⟨X,B,K⟩) (X':=⟨X,B,K'⟩) (μ:=⟨w,φ,O⟩) (μ':=⟨w,φ,dA O⟩) rfl rfl rfl (fun _=> ⟨rfl,rfl⟩) (fun b hb=>hb.imp lX.1 id) h
theorem sM (h:br ⟨X,B,K⟩ ⟨w,φ,O⟩):br ⟨X,B,K'⟩ ⟨w,φ,dA O⟩ where
 ok:=fun r es bQ=>by
  simp only[dA,Option.map_eq_some_iff] at bQ
  obtain⟨mC,Mj,rfl⟩:=bQ
  rcases h.ok r mC Mj with⟨h1,h2,h3,h4⟩ | ⟨h1,h2,ob,h3,h4⟩
  · refine .inl ⟨h1,by rw[dC];exact h2,by rw[jT (fun v=>vG v _)];exact h3,h4.imp id ?_⟩
    rintro⟨c,T,vs,k1,k2,k3,k4⟩
    exact⟨c,T,vs,k1,k2,pM k3,k4⟩
  · refine .inr ⟨h1,h2,ob,h3,?_⟩
    rcases h4 with⟨ents,clock,k1,k2,k3⟩ | ⟨s,pos,k1,k2⟩ | ⟨mo,since,Xj,k1,k2,k3⟩
    · exact .inl ⟨ents,clock,k1,pM k2,k3⟩
    · exact .inr (.inl ⟨s,pos,k1,by rw[k2];rfl⟩)
    · refine .inr (.inr ⟨mo,since,V.erases Xj,k1,by rw[k2];rfl,k3.imp (fun h=> ⟨h.1,by rw[h.2];rfl⟩) ?_⟩)
      rintro⟨m,ents,l1,l2,l3,l4,l5,l6⟩
      exact⟨m,ents,l1,fun hh=>l2 (hh.imp lX.1 id),l3,l4,l5,pM l6⟩
 inj:=fun r r' cT h1 h2 h3 h4=>h.inj r r' cT (by simpa [dA] using h1) (by simpa [dA] using h2) h3 h4
 sx:=fun r h1 h2=>h.sx r (by simpa [dA] using h1) h2
 blt:=h.blt
theorem lj {n:Nat} {T T':Nat→V} {c c':V} {rs:List Nat} (h:bP n ⟨T,O⟩ c=some (c',rs)):bP n ⟨T',dA O⟩ c.erase=some (c'.erase,rs):=by
 have other: (∀r g off len,c≠ .sl r g off len)→c.aE=true→c'=c∧rs=[]→bP n ⟨T',dA O⟩ c.erase=some (c'.erase,rs):=by
   rintro Qs hp ⟨rfl,rfl⟩
   have zQ:c'.erase.aE=true:=by rw[eJ];exact hp
   cases c'<;>first| exact absurd rfl (Qs _ _ _ _) | (simp only[V.erase] at zQ ⊢;simp only[bP,zQ,if_true])
 unfold bP at h
 split at h
 · rename_i r g off len
   simp only[V.erase,bP]
   split at h
   · rename_i es bQ
     have fF: (dA O r).es=some (V.erases es):=by
       have: (O r).es=some es:=bQ
       simp only[dA,this,Option.map_some]
     simp only[fF]
     split at h
     · rename_i hc
       have zL: (dA O r).gen=g∧off+len≤(V.erases es).length∧(dA O r).arr=true∧V.aq (aO (V.erases es) off len)=true:=
         ⟨hc.1,by rw[dC];exact hc.2.1,hc.2.2.1,by rw[kB,cL];exact hc.2.2.2⟩
       rw[if_pos zL]
       split at h
       · rename_i hr
         rw[if_pos hr]
         simp only[Option.some.injEq,Prod.mk.injEq] at h
         obtain⟨rfl,rfl⟩:=h;rfl
       · rename_i hr
         rw[if_neg hr]
         split at h
         · rename_i hf
           rw[if_pos (show (dA O r).fz=true from hf)]
           simp only[Option.some.injEq,Prod.mk.injEq] at h
           obtain⟨rfl,rfl⟩:=h
           simp only[V.erase,kB]
           rfl
         · rename_i hf
           rw[if_neg (show ¬ (dA O r).fz=true from hf)]
           simp only[Option.some.injEq,Prod.mk.injEq] at h
           obtain⟨rfl,rfl⟩:=h
           simp only[V.erase,kB]
           rfl
     · simp at h
   · simp at h
 · rename_i Qs
   split at h
   · rename_i hp
     simp only[Option.some.injEq,Prod.mk.injEq] at h
     obtain⟨rfl,rfl⟩:=h
     exact other (fun r g off len e=>Qs r g off len e) hp ⟨rfl,rfl⟩
   · simp at h
theorem gN {n:Nat} {T T':Nat→V}: ∀ {cs cY:List V} {rs:List Nat},bG n ⟨T,O⟩ cs=some (cY,rs)→bG n ⟨T',dA O⟩ (V.erases cs)=some (V.erases cY,rs)
 | [],cY,rs,h=>by
   simp only[bG,Option.some.injEq,Prod.mk.injEq] at h
   obtain⟨rfl,rfl⟩:=h;rfl
 | c::cs,cY,rs,h=>by
   simp only[bG] at h
   split at h
   · rename_i c1 r1 M5 Mi h1 h2
     simp only[Option.some.injEq,Prod.mk.injEq] at h
     obtain⟨rfl,rfl⟩:=h
     simp only[V.erases,bG,lj (T':=T') h1,gN h2]
   · simp at h
theorem pb {n:Nat} {T T':Nat→V} {v v':V} {rs:List Nat} (h:cF n ⟨T,O⟩ v=some (v',rs)):cF n ⟨T',dA O⟩ v.erase=some (v'.erase,rs):=by
 unfold cF at h
 split at h
 · rename_i hp
   simp only[Option.some.injEq,Prod.mk.injEq] at h
   obtain⟨rfl,rfl⟩:=h
   simp only[cF,eJ,hp,if_true]
 · rename_i hp
   have zQ: ¬v.erase.aE=true:=by rw[eJ];exact hp
   unfold cF
   rw[if_neg zQ]
   split at h
   · rename_i cs
     split at h
     · rename_i M5 Mi h1
       simp only[Option.some.injEq,Prod.mk.injEq] at h
       obtain⟨rfl,rfl⟩:=h
       simp only[V.erase,gN (T':=T') h1]
     · simp at h
   · rename_i f cs
     split at h
     · rename_i M5 Mi h1
       split at h
       · rename_i hc
         simp only[Option.some.injEq,Prod.mk.injEq] at h
         obtain⟨rfl,rfl⟩:=h
         simp only[V.erase,gN (T':=T') h1,cL,hc,if_true]
       · simp at h
     · simp at h
   · rename_i h1 h2
     have:=lj (T':=T') h
     cases v<;>first| exact absurd rfl (h1 _) | exact absurd rfl (h2 _ _) | exact this
theorem nE {n:Nat} {T T':Nat→V}: ∀ {cs cY:List V} {rs:List Nat},cr n ⟨T,O⟩ cs=some (cY,rs)→cr n ⟨T',dA O⟩ (V.erases cs)=some (V.erases cY,rs)
 | [],cY,rs,h=>by
   simp only[cr,Option.some.injEq,Prod.mk.injEq] at h
   obtain⟨rfl,rfl⟩:=h;rfl
 | c::cs,cY,rs,h=>by
   simp only[cr] at h
   split at h
   · rename_i c1 r1 M5 Mi h1 h2
     simp only[Option.some.injEq,Prod.mk.injEq] at h
     obtain⟨rfl,rfl⟩:=h
     simp only[V.erases,cr,pb (T':=T') h1,nE h2]
   · simp at h
theorem du.erase {n:Nat} {T T':Nat→V} {v0 v:V} {rs:List Nat} (h:du n ⟨T,O⟩ v0 v rs):du n ⟨T',dA O⟩ v0.erase v.erase rs:=by
 cases h with
 | one h=>exact .one (pb h)
 | many h=>simp only[V.erase];exact .many (nE h)
end
theorem Bg {v:V} (h:v.aE=true): (tZ v).aE=true:=by
 unfold tZ;split
 · rfl
 · exact h
theorem qY (v:V): (tZ v).aN=v.aN:=by
 unfold tZ;split<;>rfl
section
variable {X:TrEnv} {B:Nat→Prop} {K:Nat×Nat} {μ:Mu}
theorem DS (c:Nat) {x:V} {v:Value} (hx: ∀K,al ⟨X,B,K⟩ μ x v): ∃K,al ⟨X,B,K⟩ μ (ye c x) v:=by
 unfold ye
 split
 · rename_i cs
   by_cases hc: ∃sz xs,cs[c]? =some (.lit sz xs)∧xs≠[]
   · obtain⟨sz,xs,dk,cT⟩:=hc
     obtain⟨h1,vs,rfl,h2⟩:cs.all V.aN=true∧ ∃vs,v= .agg vs∧ak ⟨X,B,(0,0)⟩ μ cs vs.toList:=by have:=hx (0,0);simpa only[al] using this
     obtain⟨u,hu,bV⟩:=h2.get dk
     simp only[al] at bV
     obtain⟨k0,M6,a,cap,us,rfl,k1,k2,k3⟩:=bV
     obtain⟨b,o,rfl,k4,k5,k6⟩:=k3.resolve_left cT
     refine⟨(b,o),?_⟩
     have Fo:ak ⟨X,B,(b,o)⟩ μ cs vs.toList:=by
       have:=hx (b,o)
       simp only[al] at this
       obtain⟨_,vs',e,h⟩:=this
       injection e with e;subst e;exact h
     simp only[al]
     refine⟨?_,vs,rfl,?_⟩
     · rw[List.all_eq_true] at h1 ⊢
       intro y hy
       obtain⟨i,hi⟩:=List.mem_iff_getElem?.1 hy
       rw[List.getElem?_modify,Option.map_eq_map,Option.map_eq_some_iff] at hi
       obtain⟨z,hz,rfl⟩:=hi
       have GL:=h1 z (List.mem_of_getElem? hz)
       split
       · rw[qY];exact GL
       · exact GL
     · refine ak.uz (by rw[List.length_modify];exact Fo.length) fun i y u' hy AL=> ?_
       rw[List.getElem?_modify,Option.map_eq_map,Option.map_eq_some_iff] at hy
       obtain⟨z,hz,rfl⟩:=hy
       obtain⟨u2,Ic,oY⟩:=Fo.get hz
       rw[AL] at Ic;injection Ic with Ic;subst Ic
       by_cases IZ:c=i
       · subst IZ
         rw[if_pos rfl]
         rw[dk] at hz;injection hz with hz;subst hz
         rw[hu] at AL;injection AL with AL;subst AL
         simp only[tZ,al]
         simp only[al] at oY
         obtain⟨_,_,a',Di,GG,e,_,m2,m3⟩:=oY
         injection e with e1 e2 e3
         subst e1;subst e3
         refine⟨k0,M6,_,cap,GG,rfl,k1,m2,.inr ⟨rfl,k4,k5,?_⟩⟩
         rcases m3 with m3| ⟨b',o',e,_,_,m⟩
         · exact absurd m3 cT
         · simp only[Option.some.injEq,Addr.mk.injEq,and_true] at e
           obtain⟨rfl,rfl⟩:=e
           exact m
       · rw[if_neg IZ];exact oY
   · refine⟨(0,0),?_⟩
     have h0:=hx (0,0)
     simp only[al] at h0 ⊢
     obtain⟨h1,vs,rfl,h2⟩:=h0
     refine⟨?_,vs,rfl,?_⟩
     · rw[List.all_eq_true] at h1 ⊢
       intro y hy
       obtain⟨i,hi⟩:=List.mem_iff_getElem?.1 hy
       rw[List.getElem?_modify,Option.map_eq_map,Option.map_eq_some_iff] at hi
       obtain⟨z,hz,rfl⟩:=hi
       have GL:=h1 z (List.mem_of_getElem? hz)
       split
       · rw[qY];exact GL
       · exact GL
     · refine ak.uz (by rw[List.length_modify];exact h2.length) fun i y u' hy AL=> ?_
       rw[List.getElem?_modify,Option.map_eq_map,Option.map_eq_some_iff] at hy
       obtain⟨z,hz,rfl⟩:=hy
       obtain⟨u2,Ic,oY⟩:=h2.get hz
       rw[AL] at Ic;injection Ic with Ic;subst Ic
       by_cases IZ:c=i
       · subst IZ
         rw[if_pos rfl]
         unfold tZ
         split
         · rename_i sz xs
           have Bq:xs=[]:=Classical.byContradiction fun cT=>hc ⟨sz,xs,hz,cT⟩
           subst Bq
           simp only[al] at oY ⊢
           obtain⟨k0,M6,a,cap,us,rfl,k1,k2,_⟩:=oY
           exact⟨k0,M6,a,cap,us,rfl,k1,k2,.inl trivial⟩
         · exact oY
       · rw[if_neg IZ];exact oY
 · exact⟨(0,0),hx (0,0)⟩
theorem fN (p:Nat×Nat) (args:List V): (ct p args).length=args.length:=by simp[ct,dC]
theorem vH {p:Nat×Nat} {args:List V} (h:V.aq args=true):V.aq (ct p args)=true:=by
 refine pd fun x hx=> ?_
 obtain⟨i,hi⟩:=List.mem_iff_getElem?.1 hx
 have he:V.aq (V.erases args)=true:=by rw[cL];exact h
 rw[ct,List.getElem?_modify,Option.map_eq_map,Option.map_eq_some_iff] at hi
 obtain⟨z,hz,rfl⟩:=hi
 have GL:=ir he (List.mem_of_getElem? hz)
 split
 · unfold ye
   split
   · rename_i cs
     simp only[V.aE] at GL ⊢
     refine pd fun y hy=> ?_
     obtain⟨j,hj⟩:=List.mem_iff_getElem?.1 hy
     rw[List.getElem?_modify,Option.map_eq_map,Option.map_eq_some_iff] at hj
     obtain⟨u,hu,rfl⟩:=hj
     have AL:=ir GL (List.mem_of_getElem? hu)
     split
     · exact Bg AL
     · exact AL
   · exact GL
 · exact GL
theorem wL {F:FuncId} {p:Nat×Nat} {args:List V} {res:fK} (hp:V.aq args=true) (h:cI X F (ct p args) res):cI X F args ⟨res.val.erase,[]⟩:=by
 intro B K w φ0 vals AY hv ho
 have VB:=vH (p:=p) hp
 have hO: (enter args).O=fun _=>bK:=by rw[fP hp]
 have Uk: (enter (ct p args)).O=fun _=>bK:=by rw[fP VB]
 have hT: ∀t a,args[t]? =some a→(enter args).T t=a:=fun t a ha=>by rw[fP hp];simp[List.getD,ha]
 have TS: ∀t a,(ct p args)[t]? =some a→(enter (ct p args)).T t=a:=fun t a ha=>by rw[fP VB];simp[List.getD,ha]
 have each: ∀K' t (x:V) v,(V.erases args)[t]? =some x→vals[t]? =some v→al ⟨X,B,K'⟩ ⟨w,φ0,fun _=>bK⟩ x v:=fun K' t x v hx zP=>by
   rw[lW,List.getElem?_map,Option.map_eq_some_iff] at hx
   obtain⟨y,hy,rfl⟩:=hx
   have:=hv t v zP
   rw[hT t y hy,hO] at this
   have:=wK (K':=K') this
   exact this
 obtain⟨K',hK⟩: ∃K',∀x v,(V.erases args)[p.1]? =some x→vals[p.1]? =some v→al ⟨X,B,K'⟩ ⟨w,φ0,fun _=>bK⟩ (ye p.2 x) v:=by
   cases hx: (V.erases args)[p.1]? with
   | none=>exact⟨(0,0),fun x v h1=>by simp at h1⟩
   | some x=>
     cases hu:vals[p.1]? with
     | none=>exact⟨(0,0),fun x v _ h1=>by simp at h1⟩
     | some u=>
       obtain⟨K',hK⟩:=DS (X:=X) (B:=B) (μ:=⟨w,φ0,fun _=>bK⟩) p.2 (fun K'=>each K' p.1 x u hx hu)
       exact⟨K',fun y v h1 h2=>by injection h1 with h1;injection h2 with h2;subst h1;subst h2;exact hK⟩
 have hU:=h B K' w φ0 vals (by rw[fN];exact AY) (fun t v zP=>by
   rw[Uk]
   have bk:t< (ct p args).length:=by rw[fN,←AY];exact(List.getElem?_eq_some_iff.1 zP).1
   obtain⟨y,ns⟩: ∃y,(ct p args)[t]? =some y:=⟨_,List.getElem?_eq_getElem bk⟩
   rw[TS t _ ns]
   have Ge:=ns
   simp only[ct] at Ge
   rw[List.getElem?_modify,Option.map_eq_map,Option.map_eq_some_iff] at Ge
   obtain⟨z,hz,wq⟩:=Ge
   rw[←wq]
   split
   · rename_i e
     subst e
     exact hK z v hz zP
   · exact each K' t z v hz zP) (by
   rw[Uk]
   rw[hO] at ho
   have:=sM (K':=K') ho
   exact this)
 rw[Uk] at hU
 rw[hO]
 have post: ∀val w',(∃φ' T' O' v0 refs,Le ⟨w,φ0,fun _=>bK⟩ ⟨w',φ',O'⟩∧br ⟨X,B,K'⟩ ⟨w',φ',O'⟩∧
     al ⟨X,B,K'⟩ ⟨w',φ',O'⟩ v0 val∧du (ct p args).length ⟨T',O'⟩ v0 res.val refs∧distinct refs=true∧bX O' 0 (ct p args)=some res.outs)→
     ∃φ' T' O' v0 refs,Le ⟨w,φ0,fun _=>bK⟩ ⟨w',φ',O'⟩∧br ⟨X,B,K⟩ ⟨w',φ',O'⟩∧
     al ⟨X,B,K⟩ ⟨w',φ',O'⟩ v0 val∧du args.length ⟨T',O'⟩ v0 (fK.mk res.val.erase []).val refs∧distinct refs=true∧bX O' 0 args=some (fK.mk res.val.erase []).outs:=by
   rintro val w' ⟨φ',T',O',v0,refs,k1,k2,k3,k4,k5,k6⟩
   rw[fN] at k4
   refine⟨φ',T',dA O',v0.erase,refs,?_,sM k2,wK k3,k4.erase,k5,fX hp⟩
   exact⟨k1.size,fun b hb hn=> ⟨(k1.cR b hb hn).1,fun h'=> (k1.cR b hb hn).2 (lX.1 h')⟩,k1.gen,k1.row,k1.os,k1.output,k1.tape,k1.frozen⟩
 unfold vD at hU ⊢
 split at hU
 · exact post _ _ hU
 · refine Calls.mono hU fun e w' he=> ?_
   cases e with
   | returned v=>exact post _ _ he
   | panicked c=>exact he.elim
   | outgrown=>exact he.elim
 · exact hU.elim
end
end Go.AM
namespace Go.AM
open Go Go.RowKit
structure uZ (X:TrEnv) (E:Env):Prop where
 inj: ∀t1 t2 k,X.iU t1=some k→X.iU t2=some k→t1=t2
 mixed:X.P.follows .mixedOrders=true
 fn: ∀f af F,E.fn f=some af→X.jI F=some f→ ∃fn h c,X.P.funcs[F]? =some fn∧(fn.name== "runtime.NumGoroutine")=false∧fn.body=some c∧aU X h fn=some af∧af.nparams≤fn.ntmps
 ext: ∀f as res F,E.ext f as=some res→X.jI F=some f→cI X F as res
 iter: ∀g F caps xs,E.iter g caps=some xs→X.jI F=some g→ ∀ (B:Nat→Prop) (K:Nat×Nat) (μ:Mu) (lb:Array Value),ak ⟨X,B,K⟩ μ caps lb.toList→br ⟨X,B,K⟩ μ→tD ⟨X,B,K⟩ μ F lb xs
 hyb: ∀f h F,E.hyb f=some h→X.jI F=some f→ ∀C:bl,(∀f F as res,X.jI F=some f→C f as=some res→cI X F as res)→ ∀as res,h C as=some res→cI X F as res
section
variable {X:Ctx} {T:Nat→V} {a:Go.Act} {μ:Mu}
theorem xF (  hr:Rel X T a μ) {r:ResultVar} {r':p8} (aP:qE X r=some r') {v:V} (h:eL ⟨T,μ.O⟩ r'=some v):
   ∃val,((match r with| .tmp t=>pure (a.tmps.getD t undef) | .cell c t=>do loadVar t (←asAddr (a.tmps.getD c undef)):Sem Value)).run X.P μ.w= .ok val μ.w∧al X μ v val:=by
 cases r with
 | tmp t=>
   simp[qE] at aP;subst aP
   simp only[eL,Option.some.injEq] at h;subst h
   exact⟨_,rfl,hr.tmps t⟩
 | cell c t=>
   simp only[qE] at aP
   split at aP
   · rename_i g sz hg hn
     injection aP with aP;subst aP
     simp only[eL] at h
     split at h
     · rename_i r gn idx off e
       split at h
       · rename_i es bQ
         split at h
         · rename_i cD
           split at h
           · rename_i el sm
             have hx:=hr.tmps c
             rw[e] at hx
             simp only[al] at hx
             obtain⟨p,IW,_,cK⟩:=hx
             obtain⟨DO,cK⟩:=cK cD
             obtain⟨xv,sA,_,jL⟩:=yT hr.bd bQ sm DO
             obtain⟨val,hl,bV⟩:=oi sA h hg hn jL
             refine⟨val,?_,bV⟩
             rw[cK] at IW
             show (do loadVar t (←asAddr (a.tmps.getD c undef)):Sem Value).run X.P μ.w=_
             rw[IW]
             simpa [Sem.run_bind,asAddr,Sem.run] using hl
           · simp at h
         · simp at h
       · simp at h
     · simp at h
   · simp at aP
theorem qZ (hr:Rel X T a μ): ∀ {rs:List ResultVar} {rs':List p8} {vs:List V},jq X rs=some rs'→db ⟨T,μ.O⟩ rs'=some vs→
   ∃vals,(rs.mapM (fun r=> (match r with| .tmp t=>pure (a.tmps.getD t undef) | .cell c t=>do loadVar t (←asAddr (a.tmps.getD c undef)):Sem Value))).run X.P μ.w= .ok vals μ.w∧ak X μ vs vals
 | [],rs',vs,h1,h2=>by
   simp[jq] at h1;subst h1
   simp[db] at h2;subst h2
   exact⟨[],by simp[Sem.run],by simp[ak]⟩
 | r::rs,rs',vs,h1,h2=>by
   simp only[jq] at h1
   split at h1
   · rename_i r1 Mi k1 k2
     injection h1 with h1;subst h1
     simp only[db] at h2
     split at h2
     · rename_i v Xk m1 m2
       injection h2 with h2;subst h2
       obtain⟨val,n1,n2⟩:=xF hr k1 m1
       obtain⟨vals,p1,p2⟩:=qZ hr k2 m2
       refine⟨val::vals,?_,by simp only[ak];exact⟨n2,p2⟩⟩
       simp only[List.mapM_cons,Sem.run_bind,n1,Result.andThen,p1]
       rfl
     · simp at h2
   · simp at h1
theorem vI (hr:Rel X T a μ) {fn:Func} {rs':List p8} {vs:List V} (h1:jq X fn.results.toList=some rs') (h2:db ⟨T,μ.O⟩ rs'=some vs):
  ∃vals,(results fn a.tmps).run X.P μ.w= .ok (match vals with| [v]=>v| vs=> .tuple vs.toArray) μ.w∧ak X μ vs vals:=by
 obtain⟨vals,k1,k2⟩:=qZ hr h1 h2
 refine⟨vals,?_,k2⟩
 have hm: (fn.results.mapM (fun r=> (match r with| .tmp t=>pure (a.tmps.getD t undef) | .cell c t=>do loadVar t (←asAddr (a.tmps.getD c undef)):Sem Value))).run X.P μ.w= .ok vals.toArray μ.w:=by
  rw[Array.mapM_eq_mapM_toList]
  show Sem.run X.P (_ >>=fun l=>pure (List.toArray l)) _=_
  rw[Sem.run_bind,k1]
  rfl
 unfold results
 rw[Sem.run_bind]
 refine(congrArg (fun r=>Result.andThen r (fun vs w'=>Sem.run X.P (pure (if h:vs.size=1 then vs[0] else Value.tuple vs)) w')) hm).trans ?_
 match vals with
 | []=>rfl
 | [v]=>rfl
 | _::_::_=>rfl
end
section
variable {X:TrEnv} {E:Env}
theorem DT {  af:aZ} {args:List V} {σ:St} {res:fK} (h:leave af args σ=some res):
   ∃vs,db σ af.results=some vs∧bX σ.O 0 args=some res.outs∧ ∃refs,distinct refs=true∧
     ∀v0,v0=(match vs with| [v]=>v| vs=> .tuple vs)→du args.length σ v0 res.val refs:=by
 unfold leave at h
 split at h
 · rename_i vs outs h1 h2
   refine⟨vs,h1,?_⟩
   split at h
   · rename_i v rs hx
     split at h
     · rename_i hd
       injection h with h;subst h
       refine⟨h2,rs,hd,?_⟩
       rintro v0 rfl
       match vs,hx with
       | [u],hx=>
         simp only[cr] at hx
         split at hx
         · rename_i c' r cY rs' k1 k2
           simp only[Option.some.injEq,Prod.mk.injEq,List.cons.injEq] at hx k2
           obtain⟨⟨rfl,rfl⟩,rfl⟩:=hx
           obtain⟨_,rfl⟩:=k2
           simpa using du.one k1
         · simp at hx
       | [],hx=>simp[cr] at hx
       | _::_::_,hx=>
         simp only[cr] at hx
         split at hx
         · rename_i k1 k2
           split at k2
           · simp only[Option.some.injEq,Prod.mk.injEq] at hx k2
             obtain⟨e1,_⟩:=k2
             subst e1
             simp at hx
           · simp at k2
         · simp at hx
     · simp at h
   · rename_i vs' rs Qs hx
     split at h
     · rename_i hd
       injection h with h;subst h
       refine⟨h2,rs,hd,?_⟩
       rintro v0 rfl
       match vs,hx with
       | [u],hx=>
         exfalso
         simp only[cr] at hx
         split at hx
         · rename_i c' r cY rs' k1 k2
           simp only[Option.some.injEq,Prod.mk.injEq] at hx k2
           obtain⟨rfl,rfl⟩:=hx
           obtain⟨rfl,_⟩:=k2
           exact Qs _ rfl
         · simp at hx
       | [],hx=>exact .many hx
       | _::_::_,hx=>exact .many hx
     · simp at h
   · simp at h
 · simp at h
theorem sN {P:Program} {fn:Func} {tmps:Array Value} {R:Ending→World→Prop} {n:Fp} (Pw:World→Prop) (wy: ∀w D,n.fl≤D→w.heap[D]? =some (.deferred (some []))→Pw w→Pw (w.putObj D (.deferred none)))
   (hR: ∀w,Pw w→ ∃v,(results fn tmps).run P w= .ok v w∧R (.returned v) w) {ds:List Deferred} {w:World} (hm:Marks n w ds) (hw:Pw w):LeavesInM (Fr none) 0 P fn tmps R ds .returning w:=by
 obtain⟨_,Ds,rfl,GJ,Yi⟩:=hm
 revert w
 induction Ds with
 | nil=>intro w hw _ _;exact hR w hw
 | cons D Ds ih=>
   intro w hw hf hm
   obtain⟨h1,h2⟩:=hm D (by simp)
   rw[List.nodup_cons] at GJ
   refine⟨by simp,.inl ⟨D,w.putObj D (.deferred none),rfl,run_takeDeferred h2,?_⟩⟩
   refine ih GJ.2 (wy w D h1 h2 hw) ⟨by simpa [World.putObj] using hf.1,fun l hl=> ?_⟩ fun D' Ul=> ⟨(hm D' (by simp[Ul])).1,?_⟩
   · obtain⟨L,k⟩:=hf.2 l hl
     exact⟨L,(World.putObj_heap_other (fun e=>by rw[e,h2] at k;simp at k)).trans k⟩
   · rw[World.putObj_heap_other (fun e=>GJ.1 (by rw[←e];exact Ul))]
     exact(hm D' (by simp[Ul])).2
theorem lY (hE:uZ X E) {n:Nat} (hH: ∀m,m<n→ ∀ (B:Nat→Prop) (K:Nat×Nat),nu ⟨X,B,K⟩ E (dO E (exec E m))) {f:Nat} {af:aZ} {F:FuncId} (hf:E.fn f=some af) (hF:X.jI F=some f)
   {args:List V} {res:fK} {e:aW} {σ:St} (hlen:args.length=af.nparams) (hx:exec E n af.body (enter args)=some (e,σ)) (he:e= .normal∨e= .ret) (hl:leave af args σ=some res):cI X F args res:=by
 obtain⟨fn,h,c,ra,mw,iJ,aP,hle⟩:=hE.fn f af F hf hF
 intro B K w φ0 vals AY hv ho
 have Mk: (callFunc F vals.toArray).run X.P w= .ok (.enter F vals.toArray) w:=by
   have Ml: (fn.name== "runtime.NumGoroutine")=false:=mw
   simp[callFunc,Sem.run_bind,program,Sem.run,ra,Ml,iJ]
   simpa using mw
 rw[Mk]
 unfold aU at aP
 rw[iJ] at aP
 simp only at aP
 split at aP
 · rename_i ac rs hc TK
   injection aP with aP
   subst aP
   simp only[vD]
   refine(callsIn_wide (n:=0)).1 (callsIn_of_wp_marks (F:=Fr none) ra iJ trivial ?_ rfl)
   have cP:vals.toArray.size≤fn.ntmps:=by simp[AY,hlen];exact hle
   have kY:jc ⟨X,B,K⟩ ⟨w,φ0,(enter args).O⟩ ⟨fn.ntmps,w.heap.size,none⟩ (enter args) {tmps:=vals.toArray++Array.replicate (fn.ntmps - vals.toArray.size) undef,defers:=[]} w:=by
    refine⟨Marks.nil (Nat.le_refl _) (by simp),by simp at cP ⊢;omega,φ0,⟨fun t=> ?_,ho⟩,Le.refl _⟩
    by_cases ht:t<vals.length
    · have e1: (vals.toArray++Array.replicate (fn.ntmps - vals.toArray.size) undef).getD t undef=vals[t]:=by
       simp[Array.getElem?_append,ht]
      rw[e1]
      exact hv t _ (List.getElem?_eq_getElem ht)
    · have e1: (vals.toArray++Array.replicate (fn.ntmps - vals.toArray.size) undef).getD t undef=undef:=by
       simp[Array.getElem?_append,ht,Array.getElem?_replicate]
       split<;>rfl
      have e2: (enter args).T t=dG:=by
       have:args[t]? =none:=List.getElem?_eq_none (by omega)
       simp[enter,this]
      rw[e1,e2]
      exact rZ
   refine wpIn_mono (Bb (X:=⟨X,B,K⟩) hE.mixed (fun g F caps xs h1 h2 μ lb h3 h4=>hE.iter g F caps xs h1 h2 B K μ lb h3 h4) (h:={h with n:=fn.ntmps}) n (fun m hm=>hH m hm B K) rfl c ac _ _ e _ w hc hx kY) fun ex a' w' hq=> ?_
   obtain⟨rfl,jk,_,φ',hr,qS⟩:=hq
   obtain⟨vs,l1,l2,refs,l3,l4⟩:=DT hl
   have fin:LeavesInM (Fr none) 0 X.P fn a'.tmps (fun
      | .returned val,w'=> ∃φ' T' O' v0 refs,Le ⟨w,φ0,(enter args).O⟩ ⟨w',φ',O'⟩∧br ⟨X,B,K⟩ ⟨w',φ',O'⟩∧al ⟨X,B,K⟩ ⟨w',φ',O'⟩ v0 val∧du args.length ⟨T',O'⟩ v0 res.val refs∧distinct refs=true∧bX O' 0 args=some res.outs
      | _,_=>False) a'.defers .returning w':=by
    refine sN (fun w'=>Rel ⟨X,B,K⟩ σ.T a' ⟨w',φ',σ.O⟩∧Le ⟨w,φ0,(enter args).O⟩ ⟨w',φ',σ.O⟩) (fun w1 D h1 h2 ⟨hr,hle⟩=> ⟨⟨fun t=>al.cE (jO (μ:=⟨w1,φ',σ.O⟩) h2 rfl rfl) (hr.tmps t),wG hr.bd h2⟩,A8 hle h1⟩) (fun w' ⟨hr,qS⟩=> ?_) jk ⟨hr,qS⟩
    obtain⟨Qt,r1,r2⟩:=vI hr TK l1
    refine⟨_,r1,φ',σ.T,σ.O,_,refs,qS,hr.bd,?_,l4 _ rfl,l3,l2⟩
    match vs,Qt,r2 with
    | [],[],r2=>simp only[al];exact⟨_,rfl,by simpa using r2⟩
    | [v],[u],r2=>simp only[ak] at r2;exact r2.1
    | _::_::_,_::_::_,r2=>simp only[al];exact⟨_,rfl,by simpa using r2⟩
    | [],_::_,r2=>simp[ak] at r2
    | _::_,[],r2=>simp[ak] at r2
    | [_],_::_::_,r2=>simp[ak] at r2
    | _::_::_,[_],r2=>simp[ak] at r2
   rcases he with rfl| rfl
   · exact fin
   · exact fin
 · simp at aP
theorem u4 (    hE:uZ X E): ∀ (n:Nat) (f:Nat) (F:FuncId) (args:List V) (res:fK),X.jI F=some f→call E n f args=some res→cI X F args res:=by
 intro n
 induction n using Nat.strongRecOn with
 | _ n ih=>
   have low: ∀ (f:Nat) (F:FuncId) (args:List V) (res:fK),X.jI F=some f→ju E (exec E n) f args=some res→cI X F args res:= ?low
   · intro f F args res hF h
     unfold call dO at h
     split at h
     · rename_i g hg
       exact hE.hyb f g F hg hF _ low args res h
     · exact low f F args res hF h
   intro f F args res hF h
   unfold ju at h
   split at h
   · rename_i r he
     injection h with h;subst h
     exact hE.ext f args r F he hF
   · split at h
     · rename_i af hf
       split at h
       · rename_i hlen
         have hH: ∀m,m<n→ ∀ (B:Nat→Prop) (K:Nat×Nat),nu ⟨X,B,K⟩ E (dO E (exec E m)):=fun m hm B K=>Bf hE.inj fun f F as res h1 h2=>ih m hm f F as res h1 h2
         split at h
         · split at h
           · rename_i σ hx;exact lY hE hH hf hF hlen hx (.inl rfl) h
           · rename_i σ hx;exact lY hE hH hf hF hlen hx (.inr rfl) h
           · simp at h
         · rename_i p hp
           split at h
           · rename_i sO
             have sE: (ct p args).length=af.nparams:=by rw[fN];exact hlen
             split at h
             · rename_i σ hx
               rw[Option.map_eq_some_iff] at h
               obtain⟨r0,h,rfl⟩:=h
               exact wL sO (lY hE hH hf hF sE hx (.inl rfl) h)
             · rename_i σ hx
               rw[Option.map_eq_some_iff] at h
               obtain⟨r0,h,rfl⟩:=h
               exact wL sO (lY hE hH hf hF sE hx (.inr rfl) h)
             · simp at h
           · simp at h
       · simp at h
     · simp at h
end
end Go.AM
namespace Go.AM
open Go Go.RowKit
section
variable {X:TrEnv} {F:FuncId} {fn:Func}
theorem q6 {args:List V} (h:V.aq args=true): (enter args).O=fun _=>bK:=by rw[fP h]
theorem Bh (ra:X.P.funcs[F]? =some fn) (mw: (fn.name== "runtime.NumGoroutine")=false) (hb:fn.body.isNone=true) (hn:Extern.findNext fn=none) (he:Extern.find fn=some Extern.MathSqrt.sqrt)
   {as:List V} {res:fK} (h:Em as=some res):cI X F as res:=by
 unfold Em at h
 split at h
 · rename_i b
   split at h
   · rename_i r hr
     injection h with h;subst h
     intro B K w φ0 vals hl hv ho
     match vals,hl with
     | [v],_=>
       have h0:=hv 0 v rfl
       have e0: (enter [V.float b]).T 0= .float b:=rfl
       rw[e0] at h0
       simp only[al] at h0
       subst h0
       rw[run_callFunc_extern ra mw hb hn he]
       have aj: (Extern.MathSqrt.sqrt #[.float .f64 b]).run X.P w= .ok (.float .f64 r) w:=by
         have e:Extern.MathSqrt.sqrt #[.float .f64 b]=(match FloatKind.f64.format.sqrt b with
          | some r=>pure (.float .f64 r)
          | none=>do pure (.float .f64 (←choose (.nanBits .f64 b b)))):=rfl
         rw[e,hr];rfl
       have e1: ([Value.float .f64 b]:List Value).toArray= #[.float .f64 b]:=rfl
       rw[e1,aj]
       simp only[Result.andThen,vD]
       refine⟨φ0,fun _=>dG,_,.float r,[],Le.refl _,ho,by simp[al],.one (by simp[cF,V.aE]),rfl,rfl⟩
   · simp at h
 · simp at h
def Mm:Env:={fn:=fun _=>none,ext:=fun _ _=>none}
def Sg:bl:=fun _ _=>none
def strip (o:bF):bF:={o with pre:=[]}
structure lZ (X:TrEnv) (fn:Func) (sz lim:Nat):Prop where
 body: ∃i0 i1 i2 i3 Gf Mn Gg Gh,fn.body=some (.seq (.region i0 Gf false) (.seq (.seq (.region i1 Mn false) (.cond (.tmp 4) (.seq (.region i2 Gg false) .ret) .skip)) (.seq (.region i3 Gh false) .ret)))∧
  (fL X ({n:=fn.ntmps}:Hints) Gf Gf.toList).map (List.map strip)=some [⟨some 2,.move (.const .nils),none,[]⟩]∧
  (fL X ({n:=fn.ntmps}:Hints) Gg Gg.toList).map (List.map strip)=some [⟨some 2,.move (.const .nils),none,[]⟩]∧
  (∃zero,aQ zero sz=true∧0 <sz∧(fL X ({n:=fn.ntmps}:Hints) Gh Gh.toList).map (List.map strip)=some [⟨some 5,.buildSlice 96 sz zero 0 [],none,[]⟩,⟨some 6,.move (.tmp 0),none,[]⟩,⟨some 7,.append 128 sz lim (.tmp 5) (.tmp 6),none,[]⟩,⟨some 2,.move (.tmp 7),none,[]⟩])∧
  (∃o1 o2 t e,Mn= #[o1,o2]∧(na X ({n:=fn.ntmps}:Hints) #[o1,o2] o1).map strip=some ⟨some 3,.move (.tmp 0),none,[]⟩∧o2.dst=some 4∧o2.guard=none∧o2.op= .binOp .eql t (.tmp 3) (.const (.slice none 0 0)) t∧X.P.underlying t=some (.slice e))
 res:fn.results= #[.tmp 2]
 tmps:8≤fn.ntmps
theorem Ie {Y:Ctx} (mE: ∀t1 t2 k,Y.iU t1=some k→Y.iU t2=some k→t1=t2):nu Y Mm Sg:=
 Bf mE fun _ _ _ _ _ h=>by simp[Sg] at h
theorem Mo {Y:Ctx} (mE: ∀t1 t2 k,Y.iU t1=some k→Y.iU t2=some k→t1=t2) (n:Nat):nu Y Mm (call Mm n):=
 Bf mE fun _ _ _ _ _ h=>by simp[call,dO,ju,Mm] at h
theorem nF (mE: ∀t1 t2 k,X.iU t1=some k→X.iU t2=some k→t1=t2) (ra:X.P.funcs[F]? =some fn) (mw: (fn.name== "runtime.NumGoroutine")=false) {sz lim:Nat} (Xl:lZ X fn sz lim)
   {as:List V} {res:fK} (h:lr sz lim as=some res):cI X F as res:=by
 obtain⟨⟨i0,i1,i2,i3,Gf,Mn,Gg,Gh,iJ,h0,h2,⟨zero,vh,wq,h3⟩,o1,o2,t,e,rfl,MX,Ea,Ge,Qu,Xm⟩,mH,T9⟩:=Xl
 rw[Option.map_eq_some_iff] at h0 h2 h3 MX
 obtain⟨Xn,h0,k0⟩:=h0
 obtain⟨Xo,h2,k2⟩:=h2
 obtain⟨Xp,h3,k3⟩:=h3
 obtain⟨VC,MX,k1⟩:=MX
 have M6:Xn.map (fun o=> {o with pre:=[]})=_:=k0
 have Xq:Xo.map (fun o=> {o with pre:=[]})=_:=k2
 have Xr:Xp.map (fun o=> {o with pre:=[]})=_:=k3
 obtain⟨a0,xs,rfl,uI,zb,rfl⟩: ∃a0 xs,as=[a0]∧(a0= .lit sz xs∨a0= .nils∧xs=[])∧xs.length≤lim∧res=⟨.own sz xs,[]⟩:=by
   unfold lr at h
   split at h
   · injection h with h;exact⟨_,[],rfl,.inr ⟨rfl,rfl⟩,by simp,h.symm⟩
   · rename_i sz' xs
     split at h
     · rename_i he;injection h with h;obtain⟨rfl,he⟩:=he;exact⟨_,xs,rfl,.inl rfl,he,h.symm⟩
     · simp at h
   · simp at h
 have sO:V.aq [a0]=true:=by rcases uI with rfl| ⟨rfl,rfl⟩ <;>rfl
 intro B K w φ0 vals AY hv ho
 have hO: (enter [a0]).O=fun _=>bK:=q6 sO
 have VD: (enter [a0]).T 0=a0:=by rw[fP sO];rfl
 have Mk: (callFunc F vals.toArray).run X.P w= .ok (.enter F vals.toArray) w:=by
   simp[callFunc,Sem.run_bind,program,Sem.run,ra,iJ]
   simpa using mw
 rw[Mk]
 simp only[vD]
 refine(callsIn_wide (n:=0)).1 (callsIn_of_wp_marks (F:=Fr none) ra iJ trivial ?_ rfl)
 have cP:vals.toArray.size≤fn.ntmps:=by simp[AY];omega
 have kY:jc ⟨X,B,K⟩ ⟨w,φ0,(enter [a0]).O⟩ ⟨fn.ntmps,w.heap.size,none⟩ (enter [a0]) {tmps:=vals.toArray++Array.replicate (fn.ntmps - vals.toArray.size) undef,defers:=[]} w:=by
   refine⟨Marks.nil (Nat.le_refl _) (by simp),by simp at cP ⊢;omega,φ0,⟨fun t=> ?_,ho⟩,Le.refl _⟩
   by_cases ht:t<vals.length
   · have e1: (vals.toArray++Array.replicate (fn.ntmps - vals.toArray.size) undef).getD t undef=vals[t]:=by
       simp[Array.getElem?_append,ht]
     rw[e1]
     exact hv t _ (List.getElem?_eq_getElem ht)
   · have e1: (vals.toArray++Array.replicate (fn.ntmps - vals.toArray.size) undef).getD t undef=undef:=by
       simp[Array.getElem?_append,ht,Array.getElem?_replicate]
       split<;>rfl
     have e2: (enter [a0]).T t=dG:=by
       have: [a0][t]? =none:=List.getElem?_eq_none (by omega)
       simp[enter,this]
     rw[e1,e2]
     exact rZ
 have H:=Ie (Y:=⟨X,B,K⟩) mE
 refine wpIn_seq (wpIn_mono (wpIn_region (Q:=fun ex a w'=>ex= .normal∧jc ⟨X,B,K⟩ ⟨w,φ0,(enter [a0]).O⟩ ⟨fn.ntmps,w.heap.size,none⟩ ((enter [a0]).put (some 2) .nils) a w') ?_) ?_)
 · rw[List.range_eq_range']
   refine eI H (h:=({n:=fn.ntmps}:Hints)) rfl h0 Gf.size 0 (by omega) kY (by rw[List.drop_zero,M6];rfl) fun a' w' dg=> ⟨rfl,dg⟩
 rintro ex a1 w1 ⟨rfl,B3⟩
 refine wpIn_seq (wpIn_seq (wpIn_region ?_))
 have Um:List.range (#[o1,o2]:Array Oper).size=[0,1]:=rfl
 rw[Um,wpOpsIn_cons]
 have Xs: ((enter [a0]).put (some 2) .nils).T 0=a0:=VD
 have Qv:eK Mm Sg VC ((enter [a0]).put (some 2) .nils)=some (((enter [a0]).put (some 2) .nils).put (some 3) a0):=by
   have hs:eK Mm Sg (strip VC) ((enter [a0]).put (some 2) .nils)=some (((enter [a0]).put (some 2) .nils).put (some 3) a0):=by
     rw[k1]
     show some (((enter [a0]).put (some 2) .nils).put (some 3) (((enter [a0]).put (some 2) .nils).T 0))=_
     rw[Xs]
   exact hs
 refine pI H (h:=({n:=fn.ntmps}:Hints)) (o:=o1) rfl MX rfl B3 Qv fun a2 w2 DA=> ?_
 generalize Un: ((enter [a0]).put (some 2) .nils).put (some 3) a0=σ2 at DA
 have Xt:σ2.T 3=a0:=by rw[←Un];rfl
 have VE:σ2.T 0=a0:=by rw[←Un];exact VD
 have VF:σ2.O=fun _=>bK:=by rw[←Un];exact hO
 rw[wpOpsIn_cons]
 obtain⟨F3,Qw,φ2,oY,L9⟩:=DA
 have xe:=oY.tmps 3
 rw[Xt] at xe
 obtain⟨ad,n,cap,xG⟩: ∃ad n cap,a2.tmps.getD 3 undef= .slice ad n cap:=by
   rcases uI with rfl| ⟨rfl,_⟩
   · simp only[al] at xe
     obtain⟨_,_,a,c,_,h,_⟩:=xe
     exact⟨_,_,_,h⟩
   · simp only[al] at xe
     obtain⟨a,h⟩:=xe
     exact⟨_,_,_,h⟩
 have qP:ad.isNone=true→xs=[]:=by
   intro hn
   rcases uI with rfl| ⟨rfl,h9⟩
   · simp only[al] at xe
     obtain⟨_,_,a,c,_,h,_,_,h'⟩:=xe
     rw[xG] at h
     injection h with h _ _
     rcases h' with h'| ⟨b,o,h',_⟩
     · exact h'
     · rw[h,h'] at hn;simp at hn
   · exact h9
 have heq: (Op.equal t (.slice ad n cap) (.slice none 0 0)).run X.P w2= .ok ad.isNone w2:=run_equal_slice_nil w2 t e ad n cap Xm
 have kj: (execOp a2.eval o2).run X.P w2= .ok (.value (.bool ad.isNone)) w2:=by
   simp only[execOp,Qu]
   refine cq ?_
   have ev:a2.eval (.tmp 3)= .slice ad n cap:=by simpa [Go.Act.eval] using xG
   have eX:a2.eval (.const (.slice none 0 0))= .slice none 0 0:=rfl
   simp[eqGuard,ev,eX,Go.binOp,Sem.run_bind,heq]
 have va: (#[o1,o2]:Array Oper)[1]? =some o2:=rfl
 simp only[wpOpIn,va]
 rw[if_pos (by simp[Region.wanted,Ge])]
 refine tC (by rw[Qu];simp) ?_
 unfold Oper.wp
 rw[kj,Oper.upon_value]
 simp only[wpOpsIn]
 have BN:jc ⟨X,B,K⟩ ⟨w,φ0,(enter [a0]).O⟩ ⟨fn.ntmps,w.heap.size,none⟩ (σ2.put (some 4) (.bool ad.isNone)) (a2.put o2.dst (.bool ad.isNone)) w2:=by
   rw[Ea]
   refine⟨by rw[put_defers];exact F3,by rw[kV];exact Qw,φ2,?_,?_⟩
   · exact oo oY (Le.refl _) oY.bd (by simp[al]) (by simp;rw[Qw];simp;omega) σ2.O
   · exact L9
 generalize a2.put o2.dst (.bool ad.isNone)=a3 at BN ⊢
 have Ed:a3.eval (.tmp 4)= .bool ad.isNone:=uX (c':= .tmp 4) BN rfl rfl
 have Bq:V.aq xs=true∧xs.all (aQ · sz)=true:=by
   rcases uI with rfl| ⟨rfl,h9⟩
   · simp only[al] at xe
     obtain⟨k1,k2,a,c,vs,_,_,k3,k4⟩:=xe
     refine⟨k1,?_⟩
     rcases k4 with rfl| ⟨b,o,_,_,_,k5⟩
     · rfl
     · rw[List.all_eq_true] at k2 ⊢
       intro x hx
       obtain⟨i,hi⟩:=List.mem_iff_getElem?.1 hx
       obtain⟨v,TI,B2⟩:=ak.get k3 hi
       have:=(k5 i v TI).1
       rw[B2.eb (k2 x hx)] at this
       simp[aQ,this,k2 x hx]
   · subst h9;exact⟨rfl,rfl⟩
 have Qx: ∀ (a':Go.Act) (w':World) (O':Nat→Obj),Marks ⟨fn.ntmps,w.heap.size,none⟩ w' a'.defers→(∃φ',Le ⟨w,φ0,(enter [a0]).O⟩ ⟨w',φ',O'⟩∧br ⟨X,B,K⟩ ⟨w',φ',O'⟩∧ ∃r g,1≤r∧al ⟨X,B,K⟩ ⟨w',φ',O'⟩ (.sl r g 0 xs.length) (a'.tmps.getD 2 undef)∧O' r=⟨g,sz,true,false,some xs⟩)→
     bodyPostM (Fr none) 0 X.P fn (fun| .returned val,w'=> ∃φ' T' O' v0 refs,Le ⟨w,φ0,(enter [a0]).O⟩ ⟨w',φ',O'⟩∧br ⟨X,B,K⟩ ⟨w',φ',O'⟩∧al ⟨X,B,K⟩ ⟨w',φ',O'⟩ v0 val∧du [a0].length ⟨T',O'⟩ v0 (fK.mk (.own sz xs) []).val refs∧distinct refs=true∧bX O' 0 [a0]=some (fK.mk (.own sz xs) []).outs| _,_=>False) .ret a' w':=by
   rintro a' w' O' hd ⟨φ',k1,k2,r,g,k3,k4,k5⟩
   refine sN (fun w'=> (Le ⟨w,φ0,(enter [a0]).O⟩ ⟨w',φ',O'⟩∧br ⟨X,B,K⟩ ⟨w',φ',O'⟩)∧al ⟨X,B,K⟩ ⟨w',φ',O'⟩ (.sl r g 0 xs.length) (a'.tmps.getD 2 undef)) (fun w1 D h1 h2 ⟨⟨hle,BX⟩,hv⟩=> ⟨⟨A8 hle h1,wG BX h2⟩,al.cE (jO (μ:=⟨w1,φ',O'⟩) h2 rfl rfl) hv⟩) ?_ hd ⟨⟨k1,k2⟩,k4⟩
   rintro w' ⟨⟨k1,k2⟩,k4⟩
   refine⟨a'.tmps.getD 2 undef,by simp[results,mH],φ',fun _=>dG,O',_,[r],k1,k2,k4,.one ?_,rfl,fX sO⟩
   have LO:aO xs 0 xs.length=xs:=lA rfl
   have Xu: ¬r< [a0].length:=by simp;omega
   simp only[cF,V.aE,bP,k5,LO,Bq.1,Xu]
   simp
 cases hb:ad.isNone with
 | true=>
   rw[hb] at Ed
   obtain rfl:=qP hb
   refine wpIn_cond_true Ed (wpIn_seq (wpIn_region ?_))
   rw[List.range_eq_range']
   refine eI H (h:=({n:=fn.ntmps}:Hints)) rfl h2 Gg.size 0 (by omega) BN (σ':=(σ2.put (some 4) (.bool ad.isNone)).put (some 2) .nils) (by rw[List.drop_zero,Xq];rfl) fun a' w' dg=> ?_
   refine wpIn_ret ?_
   obtain⟨kE,_,φ,rN,qS⟩:=dg
   have eO: ((σ2.put (some 4) (.bool ad.isNone)).put (some 2) .nils).O=fun _=>bK:=VF
   have B2:=rN.tmps 2
   have e2: ((σ2.put (some 4) (.bool ad.isNone)).put (some 2) .nils).T 2= .nils:=rfl
   rw[e2] at B2
   have fI:=rN.bd
   rw[eO] at qS fI
   simp only[al] at B2
   obtain⟨aa,Xv⟩:=B2
   refine Qx a' w' (dm (fun _=>bK) 1 ⟨1,sz,true,false,some []⟩) kE ⟨dm φ 1 ⟨0,0,0⟩,qS.trans ⟨Nat.le_refl _,fun b hb hn=> ⟨rfl,?_⟩,fun r=> ?_,fun r hr=> ?_,rfl,rfl,rfl,fun _ _=>rfl⟩,⟨fun r es bQ=> ?_,fun r r' _ h1 h2 h3 h4=> ?_,fun r h1 h2=> ?_,fI.blt⟩,1,1,Nat.le_refl _,?_,rfl⟩
   · rintro⟨r,h1,h2,h3,h4⟩
     by_cases e:r=1
     · subst e;simp[dm] at h3
     · simp[dm,e,bK] at h1
   · simp only[bK];omega
   · by_cases e:r=1
     · subst e;simp[dm,bK] at hr
     · simp[dm,e]
   · by_cases e:r=1
     · subst e
       simp only[dm,if_true,Option.some.injEq] at bQ ⊢
       subst bQ
       left
       unfold ki
       simp only[dm,if_true]
       exact⟨wq,by simp,rfl,by simp⟩
     · simp[dm,e,bK] at bQ
   · by_cases e:r=1
     · subst e;simp[dm] at h3
     · simp[dm,e,bK] at h1
   · by_cases e:r=1
     · subst e;simp[dm] at h2
     · simp[dm,e,bK] at h1
   · simp only[al]
     exact⟨aa,0,Xv,by simp,by simp[dm],fun _=> ⟨by simpa [dm] using wq,by simp[dm],by simp⟩⟩
 | false=>
   rw[hb] at Ed
   refine wpIn_cond_false Ed (wpIn_skip ?_)
   refine wpIn_seq (wpIn_region ?_)
   have Xw:GM Mm [⟨some 5,.buildSlice 96 sz zero 0 [],none,[]⟩,⟨some 6,.move (.tmp 0),none,[]⟩,⟨some 7,.append 128 sz lim (.tmp 5) (.tmp 6),none,[]⟩,⟨some 2,.move (.tmp 7),none,[]⟩] (σ2.put (some 4) (.bool ad.isNone))
       (fun σ'=> ∃g,σ'.T 2= .sl 96 g 0 xs.length∧σ'.O 96=⟨g,sz,true,false,some xs⟩):=by
     have Qy:σ2.O 96=bK:=by rw[VF]
     have MP:0*sz≤16777216:=by simp
     have Uo:=vh
     simp only[aQ,V.dh] at Uo
     have Cc: ∀ (k:List V→Act),content sz a0 k=k xs:=by
       intro k
       rcases uI with rfl| ⟨rfl,rfl⟩ <;>simp[content]
     by_cases hx:xs=[]
     · subst hx
       simp only[s9,lq,pX,pY,s8,nK,nL,pZ,pT,s7,p9,td,dJ,iu,nM,lz,av.j4,tG,kF,mL,mK,pS,tH,wP,pV,mM,pW,kG,pU,tI,wQ,aQ,V.dh,V.aE,V.aq,V.isScalar,V.bC,tL,fX,lu,jv,rp,Ek,El,zU,zV,tK,rk,bK,andThen,tJ,j3,iq,Eo,dG,fK.mk.injEq,V.int.injEq,V.tuple.injEq,List.cons.injEq,V.bool.injEq,V.str.injEq,V.agg.injEq,List.getD_cons_zero,List.getD_cons_succ,List.getD_nil,List.length_cons,List.length_nil,List.getElem?_cons_zero,List.getElem?_cons_succ,List.set_cons_zero,List.set_cons_succ,List.take_succ_cons,List.take_zero,List.drop_succ_cons,List.drop_zero,List.take_nil,List.drop_nil,List.cons_append,List.nil_append,List.append_nil,Nat.zero_add,Nat.add_zero,Nat.reduceAdd,Nat.reduceSub,Nat.reduceMul,Nat.reduceEqDiff,Nat.reduceLT,Nat.reduceLeDiff,Nat.reduceBEq,BEq.rfl,Bool.true_or,Bool.or_true,Bool.false_or,Bool.or_false,Bool.and_true,Bool.true_and,Bool.and_false,Bool.false_and,Bool.and_self,Bool.or_self,Bool.false_eq_true,Bool.true_eq_false,Bool.not_true,Bool.not_false,Nat.lt_add_one,Nat.le_refl,decide_true,decide_false,decide_eq_true_eq,if_true,if_false,↓reduceIte,true_and,and_true,and_self,false_and,and_false,reduceCtorEq,Nat.sub_zero,Option.some.injEq,Nat.zero_lt_one,Nat.lt_irrefl,ne_eq,not_true_eq_false,not_false_eq_true,V.cells.eq_1,V.cells.eq_2,V.isAgg.eq_1,V.isAgg.eq_2,V.aN.eq_1,V.aN.eq_2,V.aN.eq_3,V.aN.eq_4,V.aN.eq_5,V.aN.eq_6,V.aN.eq_7,V.isTuple.eq_1,V.isTuple.eq_2,AM.part.eq_1,AM.part.eq_2,AM.part.eq_3,AM.part.eq_4,AM.dj.eq_1,AM.dj.eq_2,AM.dj.eq_3,AM.dj.eq_4,oz.eq_1,oz.eq_2,oz.eq_3,oz.eq_4,bM.eq_1,bM.eq_2,bM.eq_3,eP.eq_1,eP.eq_2,content.eq_1,content.eq_2,content.eq_3,content.eq_4,content.eq_5,dE.eq_1,dE.eq_2,cp.eq_1,cp.eq_2,sa.eq_1,sa.eq_2,cm.eq_1,cm.eq_2,cm.eq_3,cm.eq_4,cm.eq_5,cm.eq_6,dP.eq_1,dP.eq_2,gm.eq_1,gm.go.eq_1,gm.go.eq_2,cz.eq_1,cz.eq_2,eC.eq_1,eC.eq_2,dQ.eq_1,dQ.eq_2,b0.eq_1,b0.eq_2,b0.eq_3,cG.eq_1,cG.eq_2,bP.eq_1,bP.eq_2,bG.eq_1,bG.eq_2,cF.eq_1,cF.eq_2,cF.eq_3,cr.eq_1,cr.eq_2,eL.eq_1,eL.eq_2,db.eq_1,db.eq_2,bX.eq_1,bX.eq_2,bX.eq_3,bX.eq_4,cf.eq_1,cf.eq_2,cf.eq_3,cf.eq_4,cf.eq_5,cf.eq_6,cf.eq_7,cf.eq_8,cf.eq_9,cf.eq_10,cf.eq_11,cf.eq_12,cf.eq_13,cf.eq_14,cf.eq_15,cf.eq_16,cf.eq_17,cf.eq_18,cf.eq_19,cf.eq_20,cf.eq_21,dw.eq_1,dw.eq_2,dw.eq_3,dw.eq_4,dw.eq_5,dw.eq_6,dw.eq_7,zW.eq_1,zW.eq_2,zW.eq_3,zW.eq_4,min2.eq_1,min2.eq_2,max2.eq_1,max2.eq_2,gQ.eq_1,gQ.eq_2,gq.eq_1,gq.eq_2,vM.eq_1,vM.eq_2,vM.eq_3,vM.eq_4,fQ.eq_1,fQ.eq_2,fQ.eq_3,eT.eq_1,eT.eq_2,eh.eq_1,eh.eq_2,ev.eq_1,ev.eq_2,vN.eq_1,vN.eq_2,u9.eq_1,u9.eq_2,gV.eq_1,gV.eq_2,gV.eq_3,c8.eq_1,c8.eq_2,leave.eq_1,distinct.eq_1,distinct.eq_2,fin.eq_1,fin.eq_2,fin.eq_3,av.eq_1,av.eq_2,av.eq_3,av.eq_4,av.eq_5,av.eq_6,av.eq_7,av.eq_8,av.eq_9,av.eq_10,av.eq_11,av.eq_12,av.eq_13,av.eq_14,av.eq_15,av.eq_16,av.eq_17,av.eq_18,av.eq_19,av.eq_20,av.eq_21,av.eq_23,av.eq_24,av.eq_26,av.eq_27,av.eq_28,av.eq_29,av.eq_30,av.eq_31,av.eq_32,av.eq_34,av.eq_35,av.eq_36,av.eq_37,av.eq_38,pf.eq_1,apart,cA.eq_1,cA.eq_2,cW.eq_1,cW.eq_2,cW.eq_3,fq.eq_1,fq.eq_2,List.map_nil,List.map_cons,List.all_nil,List.all_cons,List.contains_nil,List.contains_cons,jw.eq_1,jw.eq_2,Option.isSome_some,Option.isSome_none,Option.isNone_none,Option.isNone_some,qb,wS,bne_self_eq_false,Bool.bne_true,Bool.bne_false,Bool.true_bne,Bool.false_bne,lA,List.isEmpty_cons,List.isEmpty_nil,eq_self,List.replicate_succ,List.replicate_zero,rq,Int.cast_ofNat_Int,Int.reduceToNat,Int.toNat_zero,Int.toNat_one,Int.reduceAdd,Int.reduceSub,Int.reduceMul,Int.reduceNeg,Int.reduceLE,Int.reduceLT,Int.reduceEq,Int.neg_ofNat_le_ofNat,Int.natCast_nonneg,Int.toNat_natCast,Int.toNat_natCast_add_one,Int.ofNat_lt,wrap64,Int.le_refl,VE,Qy,Cc,Uo,MP,wq,En (show ([]:List V).all (aQ · sz)=true from rfl),Nat.zero_le,overwrite]
       exact⟨1,rfl,rfl⟩
     · have DO: ¬xs.length≤0:=by
        intro h;exact hx (List.eq_nil_of_length_eq_zero (by omega))
       simp only[s9,lq,pX,pY,s8,nK,nL,pZ,pT,s7,p9,td,dJ,iu,nM,lz,av.j4,tG,kF,mL,mK,pS,tH,wP,pV,mM,pW,kG,pU,tI,wQ,aQ,V.dh,V.aE,V.aq,V.isScalar,V.bC,tL,fX,lu,jv,rp,Ek,El,zU,zV,tK,rk,bK,andThen,tJ,j3,iq,Eo,dG,fK.mk.injEq,V.int.injEq,V.tuple.injEq,List.cons.injEq,V.bool.injEq,V.str.injEq,V.agg.injEq,List.getD_cons_zero,List.getD_cons_succ,List.getD_nil,List.length_cons,List.length_nil,List.getElem?_cons_zero,List.getElem?_cons_succ,List.set_cons_zero,List.set_cons_succ,List.take_succ_cons,List.take_zero,List.drop_succ_cons,List.drop_zero,List.take_nil,List.drop_nil,List.cons_append,List.nil_append,List.append_nil,Nat.zero_add,Nat.add_zero,Nat.reduceAdd,Nat.reduceSub,Nat.reduceMul,Nat.reduceEqDiff,Nat.reduceLT,Nat.reduceLeDiff,Nat.reduceBEq,BEq.rfl,Bool.true_or,Bool.or_true,Bool.false_or,Bool.or_false,Bool.and_true,Bool.true_and,Bool.and_false,Bool.false_and,Bool.and_self,Bool.or_self,Bool.false_eq_true,Bool.true_eq_false,Bool.not_true,Bool.not_false,Nat.lt_add_one,Nat.le_refl,decide_true,decide_false,decide_eq_true_eq,if_true,if_false,↓reduceIte,true_and,and_true,and_self,false_and,and_false,reduceCtorEq,Nat.sub_zero,Option.some.injEq,Nat.zero_lt_one,Nat.lt_irrefl,ne_eq,not_true_eq_false,not_false_eq_true,V.cells.eq_1,V.cells.eq_2,V.isAgg.eq_1,V.isAgg.eq_2,V.aN.eq_1,V.aN.eq_2,V.aN.eq_3,V.aN.eq_4,V.aN.eq_5,V.aN.eq_6,V.aN.eq_7,V.isTuple.eq_1,V.isTuple.eq_2,AM.part.eq_1,AM.part.eq_2,AM.part.eq_3,AM.part.eq_4,AM.dj.eq_1,AM.dj.eq_2,AM.dj.eq_3,AM.dj.eq_4,oz.eq_1,oz.eq_2,oz.eq_3,oz.eq_4,bM.eq_1,bM.eq_2,bM.eq_3,eP.eq_1,eP.eq_2,content.eq_1,content.eq_2,content.eq_3,content.eq_4,content.eq_5,dE.eq_1,dE.eq_2,cp.eq_1,cp.eq_2,sa.eq_1,sa.eq_2,cm.eq_1,cm.eq_2,cm.eq_3,cm.eq_4,cm.eq_5,cm.eq_6,dP.eq_1,dP.eq_2,gm.eq_1,gm.go.eq_1,gm.go.eq_2,cz.eq_1,cz.eq_2,eC.eq_1,eC.eq_2,dQ.eq_1,dQ.eq_2,b0.eq_1,b0.eq_2,b0.eq_3,cG.eq_1,cG.eq_2,bP.eq_1,bP.eq_2,bG.eq_1,bG.eq_2,cF.eq_1,cF.eq_2,cF.eq_3,cr.eq_1,cr.eq_2,eL.eq_1,eL.eq_2,db.eq_1,db.eq_2,bX.eq_1,bX.eq_2,bX.eq_3,bX.eq_4,cf.eq_1,cf.eq_2,cf.eq_3,cf.eq_4,cf.eq_5,cf.eq_6,cf.eq_7,cf.eq_8,cf.eq_9,cf.eq_10,cf.eq_11,cf.eq_12,cf.eq_13,cf.eq_14,cf.eq_15,cf.eq_16,cf.eq_17,cf.eq_18,cf.eq_19,cf.eq_20,cf.eq_21,dw.eq_1,dw.eq_2,dw.eq_3,dw.eq_4,dw.eq_5,dw.eq_6,dw.eq_7,zW.eq_1,zW.eq_2,zW.eq_3,zW.eq_4,min2.eq_1,min2.eq_2,max2.eq_1,max2.eq_2,gQ.eq_1,gQ.eq_2,gq.eq_1,gq.eq_2,vM.eq_1,vM.eq_2,vM.eq_3,vM.eq_4,fQ.eq_1,fQ.eq_2,fQ.eq_3,eT.eq_1,eT.eq_2,eh.eq_1,eh.eq_2,ev.eq_1,ev.eq_2,vN.eq_1,vN.eq_2,u9.eq_1,u9.eq_2,gV.eq_1,gV.eq_2,gV.eq_3,c8.eq_1,c8.eq_2,leave.eq_1,distinct.eq_1,distinct.eq_2,fin.eq_1,fin.eq_2,fin.eq_3,av.eq_1,av.eq_2,av.eq_3,av.eq_4,av.eq_5,av.eq_6,av.eq_7,av.eq_8,av.eq_9,av.eq_10,av.eq_11,av.eq_12,av.eq_13,av.eq_14,av.eq_15,av.eq_16,av.eq_17,av.eq_18,av.eq_19,av.eq_20,av.eq_21,av.eq_23,av.eq_24,av.eq_26,av.eq_27,av.eq_28,av.eq_29,av.eq_30,av.eq_31,av.eq_32,av.eq_34,av.eq_35,av.eq_36,av.eq_37,av.eq_38,pf.eq_1,apart,cA.eq_1,cA.eq_2,cW.eq_1,cW.eq_2,cW.eq_3,fq.eq_1,fq.eq_2,List.map_nil,List.map_cons,List.all_nil,List.all_cons,List.contains_nil,List.contains_cons,jw.eq_1,jw.eq_2,Option.isSome_some,Option.isSome_none,Option.isNone_none,Option.isNone_some,qb,wS,bne_self_eq_false,Bool.bne_true,Bool.bne_false,Bool.true_bne,Bool.false_bne,lA,List.isEmpty_cons,List.isEmpty_nil,eq_self,List.replicate_succ,List.replicate_zero,rq,Int.cast_ofNat_Int,Int.reduceToNat,Int.toNat_zero,Int.toNat_one,Int.reduceAdd,Int.reduceSub,Int.reduceMul,Int.reduceNeg,Int.reduceLE,Int.reduceLT,Int.reduceEq,Int.neg_ofNat_le_ofNat,Int.natCast_nonneg,Int.toNat_natCast,Int.toNat_natCast_add_one,Int.ofNat_lt,wrap64,Int.le_refl,VE,Qy,Cc,Uo,MP,wq,En Bq.2,Bq.1,zb,Nat.zero_le,DO]
       exact⟨2,rfl,rfl⟩
   obtain⟨n,σ4,Qz,g,H2,Ge⟩:=Xw
   rw[List.range_eq_range']
   refine eI (Mo (Y:=⟨X,B,K⟩) mE n) (h:=({n:=fn.ntmps}:Hints)) rfl h3 Gh.size 0 (by omega) BN (by rw[List.drop_zero,Xr];exact Qz) fun a' w' dg=> ?_
   refine wpIn_ret ?_
   obtain⟨kE,_,φ,rN,qS⟩:=dg
   have B2:=rN.tmps 2
   rw[H2] at B2
   exact Qx a' w' σ4.O kE ⟨φ,qS,rN.bd,96,g,by omega,B2,Ge⟩
end
end Go.AM
namespace Go.AM
open Go Go.RowKit Go.ChangeShapes Go.WideShapes
theorem DU {H:Type} {enc:TypeId×Value→H} {P:Program} {f:Func} {s:ChangeSpec} {apart fresh handsOn again:Bool} {W W':World} {args:Array Value} {v:Value} {ds gs:List (DataW H)} {before pa pv:List MemPlace}
   (hW:DataW.Whole enc P f.params.toList s.vars apart W args.toList ds gs before)
   (mH: ∀ (b:Nat) (sp:Nat→Bool) (hd:Bool),DataW.TrodAll enc P W' b sp hd f.resultTypes.toList (v.resultList f.resultTypes.size) (s.fn H (ds++gs)).results [])
   (jN: ∀sp:Nat→Bool,(∀p ∈ before,sp p.block=true)→DataW.TrodAll enc P W' 0 sp true f.params.toList args.toList (s.fn H (ds++gs)).args pa)
   (Jf: ∀sp:Nat→Bool,(∀p ∈ before,sp p.block=true)→DataW.TrodVars enc P W' sp s.vars (s.fn H (ds++gs)).vars pv)
   (ve:before=pa++pv) (hk:W.keptBut W' (· ∈ before)) (gK: ∀a,a.block<W.heap.size→W'.frozen? a=W.frozen? a)
   (P7: ∀ (j:Nat) (t:TypeId) (r:Value),f.resultTypes[j]? =some t→(v.resultList f.resultTypes.size)[j]? =some r→Value.okWide P W' .any 0 t r):
   s.post enc P f apart fresh handsOn again W args v W':=by
 have hold: ∀p ∈ before,(fun b=>decide (b<W.heap.size)) p.block=true:=fun p hp=>by simpa using hW.lt p hp
 have bk:=hW.lt
 refine⟨ds,gs,before,[],pa,pv,hW,mH _ _ _,jN _ hold,Jf _ hold,World.keptBut_mono (fun p hp=> ⟨hp,?_⟩) hk,fun _=> ?_⟩
 · rw[ve,List.mem_append] at hp
   exact Or.inr hp
 · obtain⟨_,_,_,_,_,hz,hn⟩:=hW
   refine⟨P7,_,_,([]++pa)++pv,⟨[]++pa,pv,trodAll_append (jN _ (fun _ _=>rfl)) (mH _ _ _),Jf _ (fun _ _=>rfl),rfl,?_,?_⟩,?_⟩
   · intro b off hp
     have hb:MemPlace.cell b off ∈ before:=by rw[ve];simpa using hp
     rw[gK _ (bk _ hb)]
     exact hz b off hb
   · intro ha
     have:=hn ha
     rw[ve] at this
     simpa using this
   · intro p hp _
     rw[ve]
     simpa using hp
end Go.AM
namespace Go.AM
open Go Go.RowKit
section
variable (P:Program)
def s6 (e:TypeId) (ws:List V):V:=match P.underlying e with
 | some (.struct _) | some (.array ..)=> .agg ws
 | _=>ws.headD dG
def Si (tv:TypeId→List V→Prop):List Field→List V→Prop
 | [],vs=>vs=[]
 | f::fs,vs=> ∃a b,vs=a++b∧a.length=P.cellsOf f.type∧tv f.type a∧Si tv fs b
def QA (tv:List V→Prop) (s:Nat):Nat→List V→Prop
 | 0,vs=>vs=[]
 | k+1,vs=> ∃a b,vs=a++b∧a.length=s∧tv a∧QA tv s k b
def TV:Nat→TypeId→List V→Prop
 | 0,_,_=>False
 | n+1,t,vs=>match P.underlying t with
   | some .bool=> ∃b,vs=[.bool b]
   | some (.int k)=> ∃x,vs=[.int k x]∧(Lit.int k x).wf=true
   | some .string=> ∃s,vs=[.str s]∧s.length≤maxLen
   | some (.slice e)=>vs=[.nils]∨ ∃xs,vs=[.lit (P.cellsOf e) xs]∧xs.length≤maxLen∧ ∀x ∈ xs,∃ws,TV n e ws∧x=s6 P e ws
   | some (.struct fs)=>Si P (TV n) fs.toList vs
   | some (.array k e)=>QA (TV n e) (P.cellsOf e) k vs
   | _=>False
def nG:List Field→Nat→Option Nat
 | [],off=>some off
 | f::fs,off=>if f.offset=off then nG fs (off+P.cellsOf f.type) else none
def xH (S:List TypeId) (t:TypeId):Bool:=match P.underlying t with
 | some .bool| some (.int _) | some .string=>P.cellsOf t==1
 | some (.slice e)=>P.cellsOf t==1 &&decide (0 <P.cellsOf e) &&S.contains e
 | some (.struct fs)=> (nG P fs.toList 0==some (P.cellsOf t)) &&fs.toList.all fun f=>S.contains f.type
 | some (.array k e)=>S.contains e &&P.cellsOf t==k*P.cellsOf e
 | _=>false
end
section
variable {X:TrEnv} {H:Type} {enc:TypeId×Value→H} {w:World} {S:List TypeId} {base:Nat} {spare:Nat→Bool} {held:Bool}
abbrev still (w:World) (φ:Nat→Row):Mu:=⟨w,φ,fun _=>bK⟩
abbrev free (X:TrEnv):Ctx:=⟨X,fun _=>False,(0,0)⟩
def Good (X:TrEnv) (w:World) (n:Nat) (t:TypeId) (vs:List V) (cs:List Value):Prop:=
 TV X.P n t vs∧vs.all V.aN=true∧V.aq vs=true∧ ∀φ,ak (free X) (still w φ) vs cs
theorem ma: ∀ {a b:List V},V.aq (a++b)=(V.aq a &&V.aq b)
 | [],b=>by simp[V.aq]
 | x::a,b=>by simp[V.aq,ma (a:=a),Bool.and_assoc]
theorem sP {n:Nat}: ∀ {fs:List Field} {cs:List Value} {off total:Nat},nG X.P fs off=some total→cs.length=total→
   (∀f ∈ fs,∃vs,Good X w n f.type vs ((cs.drop f.offset).take (X.P.cellsOf f.type)))→
   ∃vs,Si X.P (TV X.P n) fs vs∧vs.all V.aN=true∧V.aq vs=true∧ ∀φ,ak (free X) (still w φ) vs (cs.drop off)
 | [],cs,off,total,hc,hl,_=>by
   simp only[nG,Option.some.injEq] at hc
   subst hc
   refine⟨[],rfl,rfl,rfl,fun φ=> ?_⟩
   rw[List.drop_eq_nil_of_le (by omega)];simp[ak]
 | f::fs,cs,off,total,hc,hl,hf=>by
   simp only[nG] at hc
   split at hc
   · rename_i ho
     subst ho
     obtain⟨a,Au,Hx,Sj,M7⟩:=hf f (by simp)
     obtain⟨b,GC,MK,Sk,Sl⟩:=sP hc hl (fun g hg=>hf g (by simp[hg]))
     have hle:f.offset+X.P.cellsOf f.type≤total:=by
      clear Au Hx Sj M7 GC MK Sk Sl hf
      have: ∀ (fs:List Field) (o tt:Nat),nG X.P fs o=some tt→o≤tt:=by
       intro fs
       induction fs with
       | nil=>intro o tt h;simp[nG] at h;omega
       | cons g gs ih=>
         intro o tt h
         simp only[nG] at h
         split at h
         · have:=ih _ _ h;omega
         · simp at h
      exact this _ _ _ hc
     have ML:a.length=X.P.cellsOf f.type:=by
      have:=(M7 (fun _=> ⟨0,0,0⟩)).length
      rw[this];simp;omega
     refine⟨a++b,⟨a,b,rfl,ML,Au,GC⟩,by simp[Hx,MK],by rw[ma,Sj,Sk];rfl,fun φ=> ?_⟩
     have e:cs.drop f.offset=(cs.drop f.offset).take (X.P.cellsOf f.type)++cs.drop (f.offset+X.P.cellsOf f.type):=by
      rw[←List.drop_drop,List.take_append_drop]
     rw[e]
     exact ak.append (M7 φ) (Sl φ)
   · simp at hc
theorem u5 {n:Nat} {e:TypeId}: ∀ (k:Nat) {cs:List Value} (j:Nat),cs.length=(j+k)*X.P.cellsOf e→
   (∀i,i<j+k→ ∃vs,Good X w n e vs ((cs.drop (i*X.P.cellsOf e)).take (X.P.cellsOf e)))→
   ∃vs,QA (TV X.P n e) (X.P.cellsOf e) k vs∧vs.all V.aN=true∧V.aq vs=true∧ ∀φ,ak (free X) (still w φ) vs (cs.drop (j*X.P.cellsOf e))
 | 0,cs,j,hl,_=>by
   refine⟨[],rfl,rfl,rfl,fun φ=> ?_⟩
   rw[List.drop_eq_nil_of_le (by rw[hl];simp)];simp[ak]
 | k+1,cs,j,hl,hf=>by
   obtain⟨a,Au,Hx,Sj,M7⟩:=hf j (by omega)
   have e1:j+1+k=j+(k+1):=by omega
   obtain⟨b,GC,MK,Sk,Sl⟩:=u5 k (cs:=cs) (j+1) (by rw[e1];exact hl) (fun i hi=>hf i (by omega))
   have ML:a.length=X.P.cellsOf e:=by
    have:=(M7 (fun _=> ⟨0,0,0⟩)).length
    rw[this];simp
    rw[hl,←Nat.sub_mul]
    have:1≤j+(k+1) - j:=by omega
    exact Nat.min_eq_left (Nat.le_mul_of_pos_left _ this)
   refine⟨a++b,⟨a,b,rfl,ML,Au,GC⟩,by simp[Hx,MK],by rw[ma,Sj,Sk];rfl,fun φ=> ?_⟩
   have e:cs.drop (j*X.P.cellsOf e)=(cs.drop (j*X.P.cellsOf e)).take (X.P.cellsOf e)++cs.drop ((j+1)*X.P.cellsOf e):=by
    rw[Nat.add_mul,Nat.one_mul,←List.drop_drop,List.take_append_drop]
   rw[e]
   exact ak.append (M7 φ) (Sl φ)
theorem Cd {α:Type} {p:Nat→α→Prop}: ∀ (n:Nat),(∀i,i<n→ ∃x,p i x)→ ∃xs:List α,xs.length=n∧ ∀i x,xs[i]? =some x→p i x
 | 0,_=> ⟨[],rfl,by simp⟩
 | n+1,h=>by
   obtain⟨xs,h1,h2⟩:=Cd n (fun i hi=>h i (by omega))
   obtain⟨x,hx⟩:=h n (by omega)
   refine⟨xs++[x],by simp[h1],fun i y hy=> ?_⟩
   by_cases hi:i<xs.length
   · rw[List.getElem?_append_left hi] at hy;exact h2 i y hy
   · rw[List.getElem?_append_right (by omega)] at hy
     have:i - xs.length=0:=by
      have:=(List.getElem?_eq_some_iff.1 hy).1
      simp at this;omega
     rw[this] at hy
     simp at hy;subst hy
     have:i=n:=by omega
     subst this;exact hx
theorem trod_good (hS:S.all (xH X.P S)=true): ∀ (n:Nat) (t:TypeId) (cs:List Value) (x:DataW H×List MemPlace),t ∈ S→DataW.trod enc X.P w base spare held n t cs=some x→ ∃vs,Good X w n t vs cs:=by
 intro n
 induction n with
 | zero=>intro t cs x _ h;simp[DataW.trod] at h
 | succ n ih=>
   intro t cs x ht h
   have hp:=List.all_eq_true.1 hS t ht
   unfold xH at hp
   cases hu:X.P.underlying t with
   | none=>rw[hu] at hp;simp at hp
   | some desc=>
     rw[hu] at hp
     cases desc with
     | bool=>
       obtain⟨b,rfl,_⟩:=DataW.trod_bool hu h
       exact⟨[.bool b],by simp[TV,hu],rfl,rfl,fun φ=>by simp[ak,al]⟩
     | int k=>
       obtain⟨m,rfl,_,hw⟩:=DataW.trod_int hu h
       exact⟨[.int k m],by simp[TV,hu,hw],rfl,rfl,fun φ=>by simp[ak,al]⟩
     | string=>
       obtain⟨s,rfl,_,hm⟩:=DataW.trod_string hu h
       exact⟨[.str s.data.toList],by simp only[TV,hu];exact⟨_,rfl,by simpa using hm⟩,rfl,rfl,fun φ=>by simp only[ak,al];exact⟨⟨s,rfl,rfl⟩,trivial⟩⟩
     | slice e=>
       simp only[Bool.and_eq_true,decide_eq_true_eq] at hp
       obtain⟨⟨_,DO⟩,he⟩:=hp
       have vd:e ∈ S:=by simpa using he
       rcases DataW.trod_slice hu h with⟨rfl,_⟩ | ⟨a,len,cap,elems,rest,m,hn,rfl,_,hb,hl,hm,hlen,sm,_,_⟩
       · exact⟨[.nils],by simp[TV,hu],rfl,rfl,fun φ=>by simp only[ak,al];exact⟨⟨none,rfl⟩,trivial⟩⟩
       · obtain rfl:n=m:=by omega
         have each: ∀i,i<len→ ∃q:V×Value,(∃ws,TV X.P n e ws∧q.1=s6 X.P e ws)∧q.1.aE=true∧q.1.dh=true∧(∀φ,al (free X) (still w φ) q.1 q.2)∧
             q.2.cells.size=X.P.cellsOf e∧ ∀j c,q.2.cells[j]? =some c→w.cell? ((a.add (i*X.P.cellsOf e)).add j)=some c:=by
           intro i hi
           have h1:=sm i hi
           rw[List.getElem?_eq_getElem (by omega)] at h1
           rw[Option.bind_eq_some_iff] at h1
           obtain⟨cY,hc,ky⟩:=h1
           obtain⟨_,mG,De⟩:=World.cells?_some hc
           obtain⟨ws,g1,g2,g3,g4⟩:=ih e cY _ vd ky
           have nZ:ws.length=cY.length:=(g4 (fun _=> ⟨0,0,0⟩)).length
           have xI: ∀ (v:Value),v.cells.toList=cY→v.cells.size=X.P.cellsOf e∧ ∀j c,v.cells[j]? =some c→w.cell? ((a.add (i*X.P.cellsOf e)).add j)=some c:=by
             intro v hv
             have hs:v.cells.size=cY.length:=by rw[←hv];simp
             refine⟨by rw[hs,mG],fun j c hj=> ?_⟩
             have FG:cY[j]? =some c:=by rw[←hv];simpa using hj
             rw[De j (by have:=(List.getElem?_eq_some_iff.1 FG).1;omega)];exact FG
           have Dm: (∃fs,X.P.underlying e=some (.struct fs))∨(∃k e',X.P.underlying e=some (.array k e'))∨s6 X.P e ws=ws.headD dG∧ws.length=1:=by
             have wo:=List.all_eq_true.1 hS e vd
             unfold xH at wo
             cases Up:X.P.underlying e with
             | none=>rw[Up] at wo;simp at wo
             | some d=>
               rw[Up] at wo
               cases d<;>simp at wo
               case struct fs=>exact .inl ⟨fs,rfl⟩
               case array k e'=>exact .inr (.inl ⟨k,e',rfl⟩)
               all_goals exact .inr (.inr ⟨by simp[s6,Up],by simp_all⟩)
           have asAgg:s6 X.P e ws= .agg ws→ ∃q:V×Value,(∃ws,TV X.P n e ws∧q.1=s6 X.P e ws)∧q.1.aE=true∧q.1.dh=true∧(∀φ,al (free X) (still w φ) q.1 q.2)∧
               q.2.cells.size=X.P.cellsOf e∧ ∀j c,q.2.cells[j]? =some c→w.cell? ((a.add (i*X.P.cellsOf e)).add j)=some c:=by
             intro QB
             refine⟨(s6 X.P e ws,.agg cY.toArray),⟨ws,g1,rfl⟩,?_,?_,fun φ=> ?_,xI _ (by simp[Value.cells])⟩
             · simp only[QB,V.aE,g3]
             · simp[QB,V.dh,V.isAgg]
             · simp only[QB,al];exact⟨g2,_,rfl,by simpa using g4 φ⟩
           rcases Dm with⟨fs,hs⟩ | ⟨k,e',hs⟩ | ⟨QB,h1⟩
           · exact asAgg (by simp[s6,hs])
           · exact asAgg (by simp[s6,hs])
           · match ws,h1,cY,nZ,g1,g2,g3,g4,xI with
             | [x],_,[c],_,g1,g2,g3,g4,xI=>
               have VG: ∀φ,al (free X) (still w φ) x c:=fun φ=>by have:=g4 φ;simp only[ak] at this;exact this.1
               have VH:x.aN=true:=by simpa using g2
               refine⟨(x,c),⟨[x],g1,by simp[QB]⟩,by simpa [V.aq] using g3,by simp[V.dh,VH],VG,xI c ?_⟩
               rw[((VG (fun _=> ⟨0,0,0⟩)).lO VH).2]
         obtain⟨qs,q1,q2⟩:=Cd len each
         refine⟨[.lit (X.P.cellsOf e) (qs.map (·.1))],?_,rfl,rfl,fun φ=> ?_⟩
         · simp only[TV,hu]
           refine .inr ⟨_,rfl,by simp[q1];omega,fun x hx=> ?_⟩
           obtain⟨q,hq,rfl⟩:=List.mem_map.1 hx
           obtain⟨i,hi⟩:=List.mem_iff_getElem?.1 hq
           exact(q2 i q hi).1
         · simp only[  ak,al,and_true]
           refine⟨zz fun x hx=> ?_,?_,some a,cap,qs.map (·.2),by simp[q1],by simp[q1];omega,?_,?_⟩
           · obtain⟨q,hq,rfl⟩:=List.mem_map.1 hx
             obtain⟨i,hi⟩:=List.mem_iff_getElem?.1 hq
             exact(q2 i q hi).2.1
           · rw[List.all_eq_true]
             intro x hx
             obtain⟨q,hq,rfl⟩:=List.mem_map.1 hx
             obtain⟨i,hi⟩:=List.mem_iff_getElem?.1 hq
             exact(q2 i q hi).2.2.1
           · refine ak.uz (by simp) fun i y u hy hu=> ?_
             rw[List.getElem?_map] at hy hu
             cases hq:qs[i]? with
             | none=>simp[hq] at hy
             | some q=>
               simp[hq] at hy hu
               subst hy hu
               exact(q2 i q hq).2.2.2.1 φ
           · cases qs with
             | nil=>exact .inl rfl
             | cons q0 qs=>
               right
               have dc: ∀ (i:Nat) (q:V×Value),(q0::qs)[i]? =some q→ ∀j c,q.2.cells[j]? =some c→w.cell? ((a.add (i*X.P.cellsOf e)).add j)=some c:=fun i q hi=> (q2 i q hi).2.2.2.2.2
               have cP: ∀ (i:Nat) (q:V×Value),(q0::qs)[i]? =some q→q.2.cells.size=X.P.cellsOf e:=fun i q hi=> (q2 i q hi).2.2.2.2.1
               have h0:=dc 0 q0 rfl 0 (q0.2.cells[0]'(by rw[cP 0 q0 rfl];exact DO)) (Array.getElem?_eq_getElem _)
               obtain⟨ab,ao,VI⟩:=a
               have uq:VI=none∧ab<w.heap.size:=by
                 simp only[Nat.zero_mul,Addr.add,if_true,World.cell?] at h0
                 split at h0
                 ·  rename_i c T f hh
                    split at h0
                    · simp at h0
                    · rename_i hn
                      exact⟨by cases VI<;>simp_all,(Array.getElem?_eq_some_iff.1 hh).1⟩
                 · simp at h0
               obtain⟨rfl,bk⟩:=uq
               refine⟨ab,ao,rfl,?_,bk,fun i v hv=> ?_⟩
               · rintro(⟨r,h1,_⟩ | h)
                 · simp[bK] at h1
                 · exact h
               · rw[  List.getElem?_map] at hv
                 cases hq: (q0::qs)[i]? with
                 | none=>simp[hq] at hv
                 |  some q=>
                    simp[hq] at hv
                    subst hv
                    refine⟨cP i q hq,fun j c hc=> ?_⟩
                    have:=dc i q hq j c hc
                    have qx: ∀o m,Addr.add ⟨ab,o,none⟩ m=⟨ab,o+m,none⟩:=by
                      intro o m
                      simp only[Addr.add]
                      split
                      · rename_i h0;subst h0;rfl
                      · rfl
                    rw[qx,qx] at this
                    exact this
     | struct fs=>
       simp only[Bool.and_eq_true,beq_iff_eq] at hp
       obtain⟨Cc,qm⟩:=hp
       obtain⟨xs,m,hm,_,hlen,vg,hf⟩:=DataW.trod_struct hu h
       obtain rfl:n=m:=by omega
       have key: ∀f ∈ fs.toList,∃vs,Good X w n f.type vs ((cs.drop f.offset).take (X.P.cellsOf f.type)):=by
         intro f VJ
         obtain⟨i,hi⟩:=List.mem_iff_getElem?.1 VJ
         have xP:fs[i]? =some f:=by simpa using hi
         have h1:=hf i f xP
         have GD:i<xs.length:=by rw[vg];exact(Array.getElem?_eq_some_iff.1 xP).1
         rw[List.getElem?_eq_getElem GD] at h1
         exact ih f.type _ _ (by have:=List.all_eq_true.1 qm f VJ;simpa using this) h1
       obtain⟨vs,k1,k2,k3,k4⟩:=sP Cc hlen key
       exact⟨vs,by simp only[TV,hu];exact k1,k2,k3,fun φ=>by simpa using k4 φ⟩
     | array k e=>
       simp only[Bool.and_eq_true,beq_iff_eq] at hp
       obtain⟨he,cP⟩:=hp
       obtain⟨xs,m,hm,_,hlen,vg,hf⟩:=DataW.trod_array hu h
       obtain rfl:n=m:=by omega
       have key: ∀i,i< 0+k→ ∃vs,Good X w n e vs ((cs.drop (i*X.P.cellsOf e)).take (X.P.cellsOf e)):=by
         intro i hi
         have h1:=hf i (by omega)
         rw[List.getElem?_eq_getElem (by omega)] at h1
         exact ih e _ _ (by simpa using he) h1
       obtain⟨vs,k1,k2,k3,k4⟩:=u5 k 0 (by rw[hlen,cP];simp) key
       exact⟨vs,by simp only[TV,hu];exact k1,k2,k3,fun φ=>by simpa using k4 φ⟩
     | _=>simp at hp
where
 zz {cs:List V} (h: ∀x ∈ cs,V.aE x=true):V.aq cs=true:=by
  induction cs with
  | nil=>rfl
  | cons c cs ih=>simp only[V.aq,Bool.and_eq_true];exact⟨h c (by simp),ih fun x hx=>h x (by simp[hx])⟩
end
end Go.AM
namespace Go.AM
open Go Go.RowKit
def Gi (X:TrEnv) (g:Nat) (af:aZ):Prop:= ∃F fn h c,X.jI F=some g∧X.P.funcs[F]? =some fn∧(fn.name== "runtime.NumGoroutine")=false∧fn.body=some c∧aU X h fn=some af∧af.nparams≤fn.ntmps
def jU (X:TrEnv):List (Nat×aZ)→Prop
 | []=>True
 | p::ps=>Gi X p.1 p.2∧jU X ps
def Ce (X:TrEnv) (g:Nat) (fn:List V→Option fK):Prop:= ∃F,X.jI F=some g∧ ∀as res,fn as=some res→cI X F as res
def pN (X:TrEnv):List (Nat× (List V→Option fK))→Prop
 | []=>True
 | p::ps=>Ce X p.1 p.2∧pN X ps
theorem jU.mem {X:TrEnv}: ∀ {tab:List (Nat×aZ)},jU X tab→ ∀p ∈ tab,Gi X p.1 p.2
 | [],_,p,hp=>by simp at hp
 | q::qs,h,p,hp=>by
   rcases List.mem_cons.1 hp with rfl| hp
   · exact h.1
   · exact jU.mem h.2 p hp
theorem pN.mem {X:TrEnv}: ∀ {tab:List (Nat× (List V→Option fK))},pN X tab→ ∀p ∈ tab,Ce X p.1 p.2
 | [],_,p,hp=>by simp at hp
 | q::qs,h,p,hp=>by
   rcases List.mem_cons.1 hp with rfl| hp
   · exact h.1
   · exact pN.mem h.2 p hp
def Cf (X:TrEnv) (g:Nat) (h:Jm):Prop:= ∃F,X.jI F=some g∧ ∀C:bl,(∀f F as res,X.jI F=some f→C f as=some res→cI X F as res)→ ∀as res,h.h C as=some res→cI X F as res
def r7 (X:TrEnv):List (Nat×Jm)→Prop
 | []=>True
 | p::ps=>Cf X p.1 p.2∧r7 X ps
theorem r7.mem {X:TrEnv}: ∀ {tab:List (Nat×Jm)},r7 X tab→ ∀p ∈ tab,Cf X p.1 p.2
 | [],_,p,hp=>by simp at hp
 | q::qs,h,p,hp=>by
   rcases List.mem_cons.1 hp with rfl| hp
   · exact h.1
   · exact r7.mem h.2 p hp
def u6 (X:TrEnv) (g:Nat) (it:List V→Option (List (List V))):Prop:= ∃F,X.jI F=some g∧ ∀caps xs,it caps=some xs→ ∀ (B:Nat→Prop) (K:Nat×Nat) (μ:Mu) (lb:Array Value),ak ⟨X,B,K⟩ μ caps lb.toList→br ⟨X,B,K⟩ μ→tD ⟨X,B,K⟩ μ F lb xs
def mb (X:TrEnv):List (Nat× (List V→Option (List (List V))))→Prop
 | []=>True
 | p::ps=>u6 X p.1 p.2∧mb X ps
theorem mb.mem {X:TrEnv}: ∀ {tab:List (Nat× (List V→Option (List (List V))))},mb X tab→ ∀p ∈ tab,u6 X p.1 p.2
 | [],_,p,hp=>by simp at hp
 | q::qs,h,p,hp=>by
   rcases List.mem_cons.1 hp with rfl| hp
   · exact h.1
   · exact mb.mem h.2 p hp
def im:List Nat→Bool
 | []=>true
 | x::xs=> !xs.contains x &&im xs
theorem kC: ∀ {l:List Nat},im l=true→ ∀ {i j x:Nat},l[i]? =some x→l[j]? =some x→i=j
 | [],_,i,j,x,h,_=>by simp at h
 | y::l,hd,i,j,x,hi,hj=>by
   simp only[im,Bool.and_eq_true,Bool.not_eq_true'] at hd
   have kf: ∀k:Nat,l[k]? =some y→False:=fun k hk=>by
     have:l.contains y=true:=by simpa using List.mem_of_getElem? hk
     rw[hd.1] at this;simp at this
   cases i with
   | zero=>
     cases j with
     | zero=>rfl
     | succ j=>simp at hi hj;subst hi;exact(kf j hj).elim
   | succ i=>
     cases j with
     | zero=>simp at hi hj;subst hj;exact(kf i hi).elim
     | succ j=>simp at hi hj;rw[kC hd.2 hi hj]
theorem zA {P:Program} {fl:List Nat} {tl:List (Nat×Nat)} (hf:im fl=true) (ht:im (tl.map (·.2))=true) (hm:P.follows .mixedOrders=true) {tab:List (Nat×aZ)} {ext:List (Nat× (List V→Option fK))} {hyb:List (Nat×Jm)} {iter:List (Nat× (List V→Option (List (List V))))}:
   let X:TrEnv:=⟨P,fun F=>fl[F]?,fun t=> (tl.find? (·.1==t)).map (·.2)⟩
   jU X tab→pN X ext→r7 X hyb→mb X iter→uZ X (MD tab ext hyb iter):=by
 intro X h1 h2 h3 h4
 have u7: ∀F F' g,X.jI F=some g→X.jI F'=some g→F=F':=fun F F' g h h'=>kC hf h h'
 refine⟨fun t1 t2 k h h'=> ?_,hm,fun f af F h hF=> ?_,fun f as res F h hF=> ?_,fun g F caps xs h hF=> ?_,fun f g F h hF C hC as res hr=> ?_⟩
 · simp only[X,Option.map_eq_some_iff] at h h'
   obtain⟨p,hp,rfl⟩:=h
   obtain⟨q,hq,Xx⟩:=h'
   have e1:=List.find?_some hp
   have e2:=List.find?_some hq
   obtain⟨i,hi⟩:=List.mem_iff_getElem?.1 (List.mem_of_find?_eq_some hp)
   obtain⟨j,hj⟩:=List.mem_iff_getElem?.1 (List.mem_of_find?_eq_some hq)
   have:i=j:=kC ht (i:=i) (j:=j) (x:=p.2) (by simp[hi]) (by simp[hj,Xx])
   subst this
   rw[hi] at hj;injection hj with hj;subst hj
   simp at e1 e2;exact e1.symm.trans e2
 · simp only[MD,Na,Option.map_eq_some_iff] at h
   obtain⟨p,hp,rfl⟩:=h
   have e1:=List.find?_some hp
   simp at e1;subst e1
   obtain⟨F',fn,hh,c,k1,k2,k3,k4,k5,k6⟩:=jU.mem h1 p (List.mem_of_find?_eq_some hp)
   obtain rfl:=u7 F F' _ hF k1
   exact⟨fn,hh,c,k2,k3,k4,k5,k6⟩
 · simp only[MD,Io] at h
   split at h
   · rename_i p hp
     have e1:=List.find?_some hp
     simp at e1;subst e1
     obtain⟨F',k1,k2⟩:=pN.mem h2 p (List.mem_of_find?_eq_some hp)
     obtain rfl:=u7 F F' _ hF k1
     exact k2 as res h
   · simp at h
 · simp only[MD,Ep] at h
   split at h
   · rename_i p hp
     have e1:=List.find?_some hp
     simp at e1;subst e1
     obtain⟨F',k1,k2⟩:=mb.mem h4 p (List.mem_of_find?_eq_some hp)
     obtain rfl:=u7 F F' _ hF k1
     exact k2 caps xs h
   · simp at h
 · simp only[MD,Bt,Option.map_eq_some_iff] at h
   obtain⟨p,hp,rfl⟩:=h
   have e1:=List.find?_some hp
   simp at e1;subst e1
   obtain⟨F',k1,k2⟩:=r7.mem h3 p (List.mem_of_find?_eq_some hp)
   obtain rfl:=u7 F F' _ hF k1
   exact k2 C hC as res hr
theorem zB {μ μ':Mu} (h:Le μ μ') (kf: ∀b,¬μ.own b):Below μ.w.heap.size μ.w μ'.w:=
 ⟨h.os,h.tape,h.output,h.size,fun k hk=> (h.cR k hk (kf k)).1⟩
theorem DV {X:TrEnv} {E:Env} (hE:uZ X E) {F g:Nat} (hF:X.jI F=some g) {fn:Func} (ra:X.P.funcs[F]? =some fn) (mw: (fn.name== "runtime.NumGoroutine")=false) {cd:Code} (iJ:fn.body=some cd)
   {args:List V} {b:Bool} (C6:Ev E g args ⟨.bool b,[]⟩) (hp:V.aq args=true) {w:World} {vals:List Value} (hv: ∀φ,ak (free X) (still w φ) args vals):
   Calls X.P F vals.toArray w fun e w'=>e= .returned (.bool b)∧Below w.heap.size w w'∧ ∀a,a.block<w.heap.size→w'.frozen? a=w.frozen? a:=by
 obtain⟨n,hn⟩:=C6
 have hs:cI X F args ⟨.bool b,[]⟩:=u4 hE n g F args _ hF hn
 have hO: (enter args).O=fun _=>bK:=q6 hp
 have hT: ∀ (t:Nat) (a:V),args[t]? =some a→(enter args).T t=a:=fun t a ha=>by rw[fP hp];simp[List.getD,ha]
 have zR:=hv (fun _=> ⟨0,0,0⟩)
 have hU:=hs (fun _=>False) (0,0) w (fun _=> ⟨0,0,0⟩) vals zR.length.symm (fun t v' zP=>by
   have hl:t<args.length:=by rw[zR.length];exact(List.getElem?_eq_some_iff.1 zP).1
   obtain⟨u,hu,bV⟩:=zR.get (List.getElem?_eq_getElem hl)
   rw[zP] at hu;injection hu with hu;subst hu
   rw[hT t _ (List.getElem?_eq_getElem hl),hO];exact bV) (by
   rw[hO]
   exact⟨fun r es h=>by simp[bK] at h,fun r1 r2 _ h=>by simp[bK] at h,fun r h=>by simp[bK] at h,fun b h=>h.elim⟩)
 have Mk: (callFunc F vals.toArray).run X.P w= .ok (.enter F vals.toArray) w:=by
   simp[callFunc,Sem.run_bind,program,Sem.run,ra,iJ]
   simpa using mw
 rw[Mk] at hU
 simp only[vD] at hU
 refine Calls.mono hU fun e w' he=> ?_
 cases e with
 | panicked c=>exact he.elim
 | outgrown=>exact he.elim
 | returned val=>
   obtain⟨φ',T',O',v0,refs,k1,k2,k3,k4,k5,k6⟩:=he
   have kf: ∀b,¬ (Mu.mk w (fun _=> ⟨0,0,0⟩) (enter args).O).own b:=fun b=>by rw[hO];rintro⟨r,h,_⟩;simp[bK] at h
   refine⟨?_,zB k1 kf,k1.frozen⟩
   · have:=(k4.Qn k2 k3).pure rfl
     simp only[al] at this
     rw[this]
end Go.AM
namespace Go.AM
open Ieee
theorem Zd {n k:Nat} (h:n< 2 ^ k) (h0:n≠0):n.log2<k:=(Nat.log2_lt h0).2 h
theorem aac {mag:Nat}:Toward.even.cut false (mag<<< (52 - mag.log2)) (mag.log2 - 52)≤9007199254740992:=by
 have h1:mag< 2 ^ (mag.log2+1):=Nat.lt_log2_self
 have key:mag<<< (52 - mag.log2) / (1 <<< min (mag.log2 - 52) ((mag<<< (52 - mag.log2)).log2+2)) < 9007199254740992:=by
  by_cases he:mag.log2≤52
  · have e2:mag.log2 - 52=0:=by omega
    rw[e2,Nat.zero_min]
    rw[Nat.shiftLeft_eq,Nat.shiftLeft_eq,Nat.pow_zero,Nat.mul_one,Nat.div_one]
    calc mag*2 ^ (52 - mag.log2) < 2 ^ (mag.log2+1)*2 ^ (52 - mag.log2):=Nat.mul_lt_mul_of_pos_right h1 (Nat.two_pow_pos _)
     _=2 ^ 53:=by rw[←Nat.pow_add];congr 1;omega
     _=9007199254740992:=by decide
  · have e1:52 - mag.log2=0:=by omega
    rw[e1]
    simp only[Nat.shiftLeft_zero]
    rw[Nat.min_eq_left (by omega)]
    simp only[Nat.shiftLeft_eq,Nat.one_mul]
    refine Nat.div_lt_of_lt_mul ?_
    calc mag< 2 ^ (mag.log2+1):=h1
     _=2 ^ (mag.log2 - 52)*2 ^ 53:=by rw[←Nat.pow_add];congr 1;omega
     _=2 ^ (mag.log2 - 52)*9007199254740992:=by congr 1
 unfold Toward.cut
 simp only
 generalize mag<<< (52 - mag.log2) / (1 <<< min (mag.log2 - 52) ((mag<<< (52 - mag.log2)).log2+2))=low at key ⊢
 have hb: ∀b:Bool,low+b.toNat≤9007199254740992:=fun b=>by have:=Bool.toNat_le b;omega
 exact hb _
theorem Zc {mag:Nat} {place:Int} (h0:mag≠0) (h1: -1000≤place+mag.log2) (h2:place+mag.log2≤200):
  ∃w:Nat,double.nearest false mag place=w∧w≤4503599627370496*((place+mag.log2+1022).toNat+2):=by
 refine⟨_,rfl,?_⟩
 unfold Format.nearest
 rw[if_neg h0]
 have e1:double.leastPlace= -1074:=by simp[Format.leastPlace,double]
 have e2:double.fractionBits=52:=rfl
 have e3:double.binade=4503599627370496:=by simp[Format.binade,double]
 have e4:max (place+(mag.log2:Int) - (double.fractionBits:Nat)) double.leastPlace=place+mag.log2 - 52:=by
  rw[e1,e2];omega
 rw[e4]
 simp only[Format.word,e1,e3]
 have a1: (place - (place+(mag.log2:Int) - 52)).toNat=52 - mag.log2:=by omega
 have a2: (place+(mag.log2:Int) - 52 - place).toNat=mag.log2 - 52:=by omega
 have a3: (place+(mag.log2:Int) - 52 - -1074).toNat=(place+mag.log2+1022).toNat:=by congr 1;omega
 rw[a1,a2,a3]
 have hk:=aac (mag:=mag)
 simp only[Bool.false_eq_true,if_false]
 refine Nat.le_trans (Nat.min_le_left _ _) ?_
 rw[Nat.mul_add,Nat.mul_comm]
 exact Nat.add_le_add_left hk _
theorem Yz:double.leastPlace= -1074:=by simp[Format.leastPlace,double]
theorem bi:double.binade=4503599627370496:=by simp[Format.binade,double]
theorem YA:double.signWeight=9223372036854775808:=by simp[Format.signWeight,double]
theorem YB:double.infRung=9218868437227405312:=by simp[Format.infRung,Format.binade,double]
theorem ZA {w T:Nat} (hT:w≤4503599627370496*(T+2)) (hT2:T≤1290): ∃m p,double.read w= .number false m p∧m< 9007199254740992∧ -1074≤p∧p≤ -1072+(T:Int):=by
 have hq:w / 4503599627370496≤T+2:=Nat.div_le_of_le_mul hT
 have h:w≤4503599627370496*1292:=Nat.le_trans hT (Nat.mul_le_mul_left _ (by omega))
 have bk:w< 9223372036854775808:=Nat.lt_of_le_of_lt h (by decide)
 have fS:w< 9218868437227405312:=Nat.lt_of_le_of_lt h (by decide)
 have h1:w / 9223372036854775808=0:=Nat.div_eq_of_lt bk
 have h2:w % 9223372036854775808=w:=Nat.mod_eq_of_lt bk
 have aaP: (w / 9223372036854775808 % 2==1)=false:=by rw[h1];rfl
 unfold Format.read
 simp only[Yz,bi,YA,YB,h2,aaP]
 by_cases hb:w< 4503599627370496
 · simp only[hb,if_true]
   exact⟨w,-1074,rfl,Nat.lt_trans hb (by decide),by decide,by clear h1 h2 aaP hb h bk fS hq hT;omega⟩
 · have hc:=fS
   simp only[hb,hc,if_true,if_false]
   refine⟨4503599627370496+w % 4503599627370496,-1074+((w / 4503599627370496 - 1:Nat):Int),rfl,?_,?_,?_⟩
   · have h9:=Nat.mod_lt w (show 0 < 4503599627370496 by decide)
     clear h1 h2 aaP hc hb h bk fS hT hq
     generalize w % 4503599627370496=r at h9 ⊢
     omega
   · clear h1 h2 aaP hc hb h bk fS hT hq
     generalize w / 4503599627370496 - 1=q
     omega
   · clear h1 h2 aaP hc hb h bk fS hT
     generalize w / 4503599627370496=q at hq ⊢
     omega
theorem Y4 (n:Nat): ∀ (todo root:Nat),root*root≤n→Datum.rootFrom n todo root*Datum.rootFrom n todo root≤n
 | 0,root,h=>h
 | todo+1,root,h=>by
   unfold Datum.rootFrom
   by_cases h': (root+1 <<< todo)*(root+1 <<< todo)≤n
   · simp only[h',if_true];exact Y4 n todo _ h'
   · simp only[h',if_false];exact Y4 n todo _ h
theorem aaH {n:Int} (h0:0 <n) (h1:n≤9223372036854775807):
   ∃r m,FloatKind.f64.format.sqrt (FloatKind.f64.nearest n)=some r∧(FloatKind.f64.decode r).toInt .zero=some m∧0≤m∧m≤9223372036854775807:=by
 have Tt:n.natAbs≠0:=by omega
 have acY:n.natAbs.log2< 63:=Zd (by
   have: (2:Nat) ^ 63=9223372036854775808:=by decide
   omega) Tt
 have YC:FloatKind.f64.nearest n=double.nearest false n.natAbs 0:=by
   have:decide (n< 0)=false:=by simp;omega
   simp only[FloatKind.nearest,FloatKind.encode,FloatKind.format,Format.write,this]
 obtain⟨w,hw,Ue⟩:=Zc (mag:=n.natAbs) (place:=0) Tt (by omega) (by omega)
 obtain⟨m,p,hr,hm,R5,hp⟩:=ZA Ue (by clear Ue;omega)
 clear Ue
 rw[YC,hw]
 have hpb:p≤13:=by clear hm;omega
 have fin: ∀ (mag:Nat) (place:Int),mag≠0→ -1000≤place+mag.log2→place+mag.log2≤59→
    ∃r k,double.write (.number false mag place)=r∧(double.read r).toInt .zero=some k∧0≤k∧k≤9223372036854775807:=by
   intro mag place g0 g1 g2
   obtain⟨w2,zN,abM⟩:=Zc (mag:=mag) (place:=place) g0 g1 (by omega)
   obtain⟨m3,p3,Ua,hm3,hp3,acZ⟩:=ZA abM (by clear abM;omega)
   clear abM
   have hp9:p3≤9:=by omega
   refine⟨w2,_,zN,by rw[Ua];rfl,?_⟩
   have ac0:Toward.zero.cut false (m3<<< p3.toNat) (-p3).toNat≤m3<<< p3.toNat:=by
    unfold Toward.cut
    simp only[Bool.toNat_false,Nat.add_zero]
    exact Nat.div_le_self _ _
   have Xl:m3<<< p3.toNat≤m3*512:=by
    rw[Nat.shiftLeft_eq]
    refine Nat.mul_le_mul_left _ ?_
    calc 2 ^ p3.toNat≤2 ^ 9:=Nat.pow_le_pow_right (by omega) (by omega)
      _=512:=by decide
   simp only[signed,Bool.false_eq_true,if_false,Nat.shiftLeft_zero]
   omega
 show ∃r k,(((double.read w).root (double.fractionBits+2)).map double.write)=some r∧(double.read r).toInt .zero=some k∧0≤k∧k≤9223372036854775807
 rw[hr]
 simp only[Datum.root]
 by_cases EW:m=0
 · subst EW
   rw[if_pos rfl]
   exact⟨0,0,by simp[Format.write,Format.nearest,Format.word],by decide,by decide,by decide⟩
 · rw[if_neg EW]
   simp only[Bool.false_eq_true,if_false]
   have e2:double.fractionBits=52:=rfl
   rw[e2]
   have C7:m.log2< 53:=Zd (by
    have: (2:Nat) ^ 53=9007199254740992:=by decide
    omega) EW
   generalize acW:2*(52+2) - m.log2+((p - (2*(52+2) - m.log2:Nat)) % 2).toNat=more
   have hmb:56≤more∧more≤109:=by omega
   generalize hwh:Datum.rootFrom (m<<< more) ((m<<< more).log2 / 2+1) 0=whole
   have hle:whole*whole≤m<<< more:=by rw[←hwh];exact Y4 _ _ _ (by simp)
   have hbound:whole< 2 ^ 81:=by
    rw[Nat.shiftLeft_eq] at hle
    have h2:m*2 ^ more< 2 ^ 162:=by
      calc m*2 ^ more< 2 ^ 53*2 ^ more:=Nat.mul_lt_mul_of_pos_right (by
            have: (2:Nat) ^ 53=9007199254740992:=by decide
            omega) (Nat.two_pow_pos _)
       _=2 ^ (53+more):=by rw[←Nat.pow_add]
       _≤2 ^ 162:=Nat.pow_le_pow_right (by omega) (by omega)
    rcases Nat.lt_or_ge whole (2 ^ 81) with h| h
    · exact h
    · have:2 ^ 81*2 ^ 81≤whole*whole:=Nat.mul_le_mul h h
      have e: (2:Nat) ^ 81*2 ^ 81=2 ^ 162:=by rw[←Nat.pow_add]
      omega
   have DO:m<<< more≠0:=by
    rw[Nat.shiftLeft_eq]
    exact Nat.mul_ne_zero EW (by have:=Nat.two_pow_pos more;omega)
   generalize abN:2*whole+(whole*whole !=m<<< more).toNat=aa0
   have abl:aa0≠0:=by
    intro h
    rw[h] at abN
    have Sm:whole=0:=by omega
    subst Sm
    have: (0*0 !=m<<< more)=true:=by simp;exact fun h=>DO h.symm
    rw[this] at abN
    simp at abN
   have acn:aa0< 2 ^ 83:=by
    have hb: (whole*whole !=m<<< more).toNat≤1:=Bool.toNat_le _
    have e: (2:Nat) ^ 83=4*2 ^ 81:=by decide
    omega
   have C9:aa0.log2< 83:=Zd acn abl
   obtain⟨r,k,g1,g2,g3,g4⟩:=fin aa0 ((p - more) / 2 - 1) abl (by omega) (by omega)
   refine⟨r,k,?_,g2,g3,g4⟩
   simp only[Option.map_some]
   exact congrArg some g1
end Go.AM
