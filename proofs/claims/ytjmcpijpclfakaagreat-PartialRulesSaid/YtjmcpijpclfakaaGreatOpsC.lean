/-
  Texts of the proof: AmCall2, AmCall3, AmCall4, AmCall5, AmCall6, AmCall7, AmCall8, AmCall9, AmTag, AmSound, AmExt, AmGlue, AmTrod, AmSeat, AmSqrt, AmView.
-/
import Derived.Test.YtjmcpijpclfakaaGreatOpsB
import Derived.Test.YtjmcpijpclfakaaGreatBase
import Derived.Laws.Externs
import Derived.Laws.Cover3
import GoSem.Extern.MathSqrt
import Derived.ProofKit
import Derived.ChangeSame
import Derived.ChangeArms
import Derived.OpenShut
import Derived.Deep.Slices
import Derived.Carry
set_option linter.unusedSimpArgs false
set_option linter.unusedVariables false
namespace Go.AM
open Go Go.RowKit
def CN (P:Program) (r:Result Next) (R:Value→World→Prop):Prop:=
 match r with
 | .ok (.value v) w'=>R v w'
 | .ok (.enter f args) w'=>Calls P f args w' fun| .returned v,HZ=>R v HZ| _,_=>False
 | _=>False
theorem CN.upon {P:Program} {r:Result Next} {R:Value→World→Prop} (h:CN P r R) {o:Oper} {a:Go.Act} {next:Go.Act→World→Prop} {Q:Go.Exit→Go.Act→World→Prop}
   (hn: ∀v w,R v w→next (a.put o.dst v) w):o.upon P a next Q r:=by
 unfold CN at h
 split at h
 · exact hn _ _ h
 · rw[Oper.upon_enter]
   refine Calls.mono h fun e w' he=> ?_
   cases e with
   | returned v=>exact hn _ _ he
   | panicked c=>exact he.elim
   | outgrown=>exact he.elim
 · exact h.elim
def V.jU:V→Bool
 | .own .. =>true
 | c=>c.aV
theorem uH {c:V} (h:c.aV=true):c.jU=true:=by cases c<;>simp_all[V.aV,V.jU]
inductive dP (n:Nat) (σ:St):V→V→List Nat→Prop
 | one {v0 v:V} {rs:List Nat} (h:dI n σ v0=some (v,rs)):dP n σ v0 v rs
 | many {vs vs':List V} {rs:List Nat} (h:da n σ vs=some (vs',rs)):dP n σ (.tuple vs) (.tuple vs') rs
def dA (X:TrEnv) (F:FuncId) (args:List V) (res:iE):Prop:=
 ∀ (B:Nat→Prop) (K:Nat×Nat) (w:World) (φ0:Nat→Row) (vals:List Value),vals.length=args.length→
  (∀t v,vals[t]? =some v→au ⟨X,B,K⟩ ⟨w,φ0,(enter args).O⟩ ((enter args).T t) v)→bQ ⟨X,B,K⟩ ⟨w,φ0,(enter args).O⟩→
  CN X.P ((callFunc F vals.toArray).run X.P w) fun val w'=> ∃φ' T' O' v0 refs,Le ⟨w,φ0,(enter args).O⟩ ⟨w',φ',O'⟩∧bQ ⟨X,B,K⟩ ⟨w',φ',O'⟩∧
     au ⟨X,B,K⟩ ⟨w',φ',O'⟩ v0 val∧dP args.length ⟨T',O'⟩ v0 res.val refs∧distinct refs=true∧cA O' 0 args=some res.outs
inductive XB (Y:Ctx) (μ:Mu) (n:Nat):V→List Nat→Value→Prop
 | pure {c:V} {val:Value} (hp:c.aj=true) (h:au Y μ c val):XB Y μ n c [] val
 | sl {r g off len:Nat} {es:List V} {val:Value} (hr:r<n) (bX: (μ.O r).es=some es) (hg: (μ.O r).gen=g) (hl:off+len≤es.length) (h:au Y μ (.sl r g off len) val):XB Y μ n (.sl r g off len) [r] val
 | own {r g off len:Nat} {es:List V} {val:Value} (hr:n≤r) (bX: (μ.O r).es=some es) (jn: (μ.O r).fz=false) (hg: (μ.O r).gen=g) (hl:off+len≤es.length) (hp:V.ae (bb es off len)=true)
    (h:au Y μ (.sl r g off len) val):XB Y μ n (.own (μ.O r).sz (bb es off len)) [r] val
inductive At (Y:Ctx) (μ:Mu) (n:Nat):List V→List Nat→List Value→Prop
 | nil:At Y μ n [] [] []
 | cons {c:V} {rs rs':List Nat} {val:Value} {cs:List V} {vals:List Value} (h:XB Y μ n c rs val) (hs:At Y μ n cs rs' vals):At Y μ n (c::cs) (rs++rs') (val::vals)
section
variable {Y:Ctx} {μ:Mu} {n:Nat}
theorem At.length {cs:List V} {rs:List Nat} {vals:List Value} (h:At Y μ n cs rs vals):cs.length=vals.length:=by
 induction h with
 | nil=>rfl
 | cons _ _ ih=>simp[ih]
theorem Gz (ho:bQ Y μ) {r g off len:Nat} {es:List V} {val:Value} (bX: (μ.O r).es=some es) (jn: (μ.O r).fz=true) (hg: (μ.O r).gen=g) (hl:off+len≤es.length)
   (hp:V.ae (bb es off len)=true) (h:au Y μ (.sl r g off len) val):au Y μ (.lit (μ.O r).sz (bb es off len)) val:=by
 simp only[au] at h ⊢
 obtain⟨a,cap,rfl,hle,ve,dm⟩:=h
 obtain⟨a0,a1,a2⟩:=dm hg
 obtain⟨q1,q2,q3,q4⟩:=ho.row r es bX a0
 have sF: (bb es off len).length=len:=by simp[bb];omega
 have np: (bb es off len).all V.dX=true:=by
   simp only[List.all_eq_true] at q3 ⊢
   exact fun x hx=> (cE (q3 x (List.mem_of_mem_drop (List.mem_of_mem_take hx)))).1
 by_cases Cz:len=0
 · exact⟨hp,np,a,cap,[],by rw[sF],by omega,by simp[bb,Cz,ak],.inl (by simpa using sF.trans Cz)⟩
 · rcases q4 with q4| ⟨cc,TT,vs,p1,p2,p3,p4⟩
   · omega
   · refine⟨hp,np,a,cap,(vs.drop off).take len,by rw[sF],by omega,ak.take _ (ak.drop _ p3),.inr ⟨_,_,a2.resolve_left (by omega),?_,(Array.getElem?_eq_some_iff.1 p1).1,(p4.drop off).take len⟩⟩
     rintro(⟨r',k1,k2,k3,k4⟩ | hb)
     · by_cases e:r'=r
       · subst e;rw[jn] at k2;simp at k2
       · exact ho.inj r' r e k1 (by simp[bX]) k3 (by omega) k4
     · exact ho.wL r (by simp[bX]) (by omega) hb
theorem nw (ho:bQ Y μ) {T:Nat→V} {c c':V} {rs:List Nat} {val:Value} (h:au Y μ c val) (he:cp n ⟨T,μ.O⟩ c=some (c',rs)):XB Y μ n c' rs val:=by
 unfold cp at he
 split at he
 · rename_i r g off len
   simp only at he
   split at he
   · rename_i es bX
     split at he
     · rename_i hc
       obtain⟨c1,c2,c3,c4⟩:=hc
       split at he
       · rename_i hr
         simp only[Option.some.injEq,Prod.mk.injEq] at he
         obtain⟨rfl,rfl⟩:=he
         exact .sl hr bX c1 c2 h
       · rename_i hr
         split at he
         · rename_i jn
           simp only[Option.some.injEq,Prod.mk.injEq] at he
           obtain⟨rfl,rfl⟩:=he
           exact .pure rfl (Gz ho bX jn c1 c2 c4 h)
         · rename_i jn
           simp only[Option.some.injEq,Prod.mk.injEq] at he
           obtain⟨rfl,rfl⟩:=he
           exact .own (by omega) bX (by simpa using jn) c1 c2 c4 h
     · simp at he
   · simp at he
 · split at he
   · rename_i hp
     simp only[Option.some.injEq,Prod.mk.injEq] at he
     obtain⟨rfl,rfl⟩:=he
     exact .pure hp h
   · simp at he
theorem ji (ho:bQ Y μ) {T:Nat→V}: ∀ {cs dC:List V} {rs:List Nat} {vals:List Value},ak Y μ cs vals→bV n ⟨T,μ.O⟩ cs=some (dC,rs)→At Y μ n dC rs vals
 | [],dC,rs,[],_,he=>by simp[bV] at he;obtain⟨rfl,rfl⟩:=he;exact .nil
 | [],_,_,_::_,h,_=>by simp[ak] at h
 | _::_,_,_,[],h,_=>by simp[ak] at h
 | c::cs,dC,rs,v::vs,h,he=>by
   simp only[ak] at h
   simp only[bV] at he
   split at he
   · rename_i c1 r1 YR XC h1 h2
     simp only[Option.some.injEq,Prod.mk.injEq] at he
     obtain⟨rfl,rfl⟩:=he
     exact .cons (nw ho h.1 h1) (ji ho h.2 h2)
   · simp at he
inductive JR (Y:Ctx) (μ:Mu) (n:Nat):V→List Nat→Value→Prop
 | cell {c:V} {rs:List Nat} {val:Value} (h:XB Y μ n c rs val):JR Y μ n c rs val
 | agg {cs:List V} {rs:List Nat} {vals:Array Value} (hc:cs.all V.jU=true) (h:At Y μ n cs rs vals.toList):JR Y μ n (.agg cs) rs (.agg vals)
inductive uI (Y:Ctx) (μ:Mu) (n:Nat):List V→List Nat→List Value→Prop
 | nil:uI Y μ n [] [] []
 | cons {c:V} {rs rs':List Nat} {val:Value} {cs:List V} {vals:List Value} (h:JR Y μ n c rs val) (hs:uI Y μ n cs rs' vals):uI Y μ n (c::cs) (rs++rs') (val::vals)
theorem uJ {T:Nat→V} {O:Nat→Obj} {c c':V} {rs:List Nat} (he:cp n ⟨T,O⟩ c=some (c',rs)) (hc:c.aV=true):V.jU c'=true:=by
 unfold cp at he
 split at he
 · simp only at he
   split at he
   · split at he
     · split at he
       · simp only[Option.some.injEq,Prod.mk.injEq] at he
         obtain⟨rfl,rfl⟩:=he;rfl
       · split at he
         · simp only[Option.some.injEq,Prod.mk.injEq] at he
           obtain⟨rfl,rfl⟩:=he;rfl
         · simp only[Option.some.injEq,Prod.mk.injEq] at he
           obtain⟨rfl,rfl⟩:=he;rfl
     · simp at he
   · simp at he
 · split at he
   · simp only[Option.some.injEq,Prod.mk.injEq] at he
     obtain⟨rfl,rfl⟩:=he
     exact uH hc
   · simp at he
theorem lP {T:Nat→V} {O:Nat→Obj}: ∀ {cs dC:List V} {rs:List Nat},bV n ⟨T,O⟩ cs=some (dC,rs)→cs.all V.aV=true→
   dC.all V.jU=true
 | [],dC,rs,he,_=>by simp[bV] at he;obtain⟨rfl,rfl⟩:=he;rfl
 | c::cs,dC,rs,he,hc=>by
   simp only[List.all_cons,Bool.and_eq_true] at hc
   simp only[bV] at he
   split at he
   · rename_i c1 r1 YR XC h1 h2
     simp only[Option.some.injEq,Prod.mk.injEq] at he
     obtain⟨rfl,rfl⟩:=he
     have i1:=uJ h1 hc.1
     have i2:=lP h2 hc.2
     rw[List.all_cons,i2,Bool.and_true]
     exact i1
   · simp at he
theorem At.bq {cs:List V} {rs:List Nat} {vals:List Value} (h:At Y μ n cs rs vals) (hp:V.ae cs=true):ak Y μ cs vals∧rs=[]:=by
 induction h with
 | nil=>simp[ak]
 | cons h hs ih=>
   simp only[V.ae,Bool.and_eq_true] at hp
   obtain⟨i1,i2⟩:=ih hp.2
   cases h with
   | pure Fl hv=>simp only[ak];exact⟨⟨hv,i1⟩,by simpa using i2⟩
   | sl=>simp[V.aj] at hp
   | own=>simp[V.aj] at hp
theorem rV (ho:bQ Y μ) {T:Nat→V} {v v':V} {rs:List Nat} {val:Value} (h:au Y μ v val) (he:dI n ⟨T,μ.O⟩ v=some (v',rs)):JR Y μ n v' rs val:=by
 unfold dI at he
 split at he
 · rename_i hp
   simp only[Option.some.injEq,Prod.mk.injEq] at he
   obtain⟨rfl,rfl⟩:=he
   exact .cell (.pure hp h)
 · split at he
   · simp only[au] at h
     obtain⟨h1,vs,rfl,h2⟩:=h
     split at he
     · rename_i dC rs' nT
       simp only[Option.some.injEq,Prod.mk.injEq] at he
       obtain⟨rfl,rfl⟩:=he
       exact .agg (lP nT h1) (ji ho h2 nT)
     · simp at he
   · simp only[au] at h
     obtain⟨F,cv,rfl,h1,h2⟩:=h
     split at he
     · rename_i dC rs' nT
       split at he
       · rename_i hp
         simp only[Option.some.injEq,Prod.mk.injEq] at he
         obtain⟨rfl,rfl⟩:=he
         obtain⟨k1,k2⟩:=(ji ho h2 nT).bq hp
         subst k2
         refine .cell (.pure (by simpa [V.aj] using hp) ?_)
         simp only[au]
         exact⟨F,cv,rfl,h1,k1⟩
       · simp at he
     · simp at he
   · exact .cell (nw ho h he)
theorem qe (ho:bQ Y μ) {T:Nat→V}: ∀ {cs dC:List V} {rs:List Nat} {vals:List Value},ak Y μ cs vals→da n ⟨T,μ.O⟩ cs=some (dC,rs)→uI Y μ n dC rs vals
 | [],dC,rs,[],_,he=>by simp[da] at he;obtain⟨rfl,rfl⟩:=he;exact .nil
 | [],_,_,_::_,h,_=>by simp[ak] at h
 | _::_,_,_,[],h,_=>by simp[ak] at h
 | c::cs,dC,rs,v::vs,h,he=>by
   simp only[ak] at h
   simp only[da] at he
   split at he
   · rename_i c1 r1 YR XC h1 h2
     simp only[Option.some.injEq,Prod.mk.injEq] at he
     obtain⟨rfl,rfl⟩:=he
     exact .cons (rV ho h.1 h1) (qe ho h.2 h2)
   · simp at he
end
end Go.AM
namespace Go.AM
open Go Go.RowKit
def ga (φ:Nat→Row) (ws:List fk) (i:Nat):Row:=
 match ws with
 | []=> ⟨0,0,0⟩
 | w::ws=>if w.i=i then(match w.fresh with| none=>φ w.r| some _=> ⟨0,0,0⟩) else ga φ ws i
inductive wY (X:Ctx) (μ:Mu) (r0 i:Nat) (rs:List Nat) (ws:List fk):V→Value→Prop
 | plain {a:V} {v:Value} (hp:V.aj a=true) (hs:ky X μ rs a v):wY X μ r0 i rs ws a v
 | sl {r g off len:Nat} {es:List V} {v:Value} (hw: (⟨i,r,none⟩:fk) ∈ ws) (bX: (μ.O r).es=some es) (jn: (μ.O r).fz=false) (cW: (μ.O r).gen=g) (gO:V.ae es=true)
    (jh:off+len≤es.length) (hv:au X μ (.sl r g off len) v):wY X μ r0 i rs ws (.msl (μ.O r).sz es off len) v
 | ptr {r g idx off:Nat} {es:List V} {v:Value} (hw: (⟨i,r,none⟩:fk) ∈ ws) (bX: (μ.O r).es=some es) (jn: (μ.O r).fz=false) (cW: (μ.O r).gen=g) (gO:V.ae es=true)
    (hv:au X μ (.ptr r g idx off) v):wY X μ r0 i rs ws (.mptr (μ.O r).sz es idx off) v
 | fresh {sz:Nat} {v:Value} (hw: (⟨i,r0+i,some sz⟩:fk) ∈ ws) (cJ:0 <sz) (hv: ∃a,v= .slice a 0 0):wY X μ r0 i rs ws (.msl sz [] 0 0) v
section
variable {X:Ctx} {μ:Mu} {r0:Nat}
theorem wY.more {i:Nat} {rs rs':List Nat} {ws kU:List fk} {a:V} {v:Value} (h:wY X μ r0 i rs ws a v) (h1: ∀r ∈ rs,r ∈ rs') (h2: ∀w ∈ ws,w ∈ kU):wY X μ r0 i rs' kU a v:=by
 cases h with
 | plain hp hs=>exact .plain hp (hs.more h1)
 | sl hw a b c d e f=>exact .sl (h2 _ hw) a b c d e f
 | ptr hw a b c d f=>exact .ptr (h2 _ hw) a b c d f
 | fresh hw a b=>exact .fresh (h2 _ hw) a b
theorem mg.at {i:Nat} {as:List V} {vs:List Value} {rs:List Nat} {ws:List fk} (h:mg X μ r0 i as vs rs ws):
   as.length=vs.length∧(∀w ∈ ws,i≤w.i)∧(∀t a,as[t]? =some a→ ∃v,vs[t]? =some v∧wY X μ r0 (i+t) rs ws a v):=by
 induction h with
 | nil i=>simp
 | @plain i a v rs rs' as vs ws hp hs h ih=>
   obtain⟨i1,i2,i3⟩:=ih
   refine⟨by simp[i1],fun w hw=>by have:=i2 w hw;omega,fun t b hb=> ?_⟩
   cases t with
   | zero=>simp at hb;subst hb;exact⟨v,by simp,.plain hp (hs.more (by simp+contextual))⟩
   | succ t=>
     obtain⟨v',k1,k2⟩:=i3 t b (by simpa using hb)
     refine⟨v',by simpa using k1,?_⟩
     have e:i+(t+1)=i+1+t:=by omega
     rw[e];exact k2.more (by simp+contextual) (fun w hw=>hw)
 | @sl i r g off len es v rs as vs ws bX jn cW gO jh hv h ih=>
   obtain⟨i1,i2,i3⟩:=ih
   refine⟨by simp[i1],fun w hw=> ?_,fun t b hb=> ?_⟩
   · rcases List.mem_cons.1 hw with rfl| hw
     · exact Nat.le_refl _
     · have:=i2 w hw;omega
   · cases t with
     | zero=>simp at hb;subst hb;exact⟨v,by simp,.sl (by simp) bX jn cW gO jh hv⟩
     | succ t=>
       obtain⟨v',k1,k2⟩:=i3 t b (by simpa using hb)
       refine⟨v',by simpa using k1,?_⟩
       have e:i+(t+1)=i+1+t:=by omega
       rw[e];exact k2.more (fun r hr=>hr) (fun w hw=>by simp[hw])
 | @ptr i r g idx off es v rs as vs ws bX jn cW gO hv h ih=>
   obtain⟨i1,i2,i3⟩:=ih
   refine⟨by simp[i1],fun w hw=> ?_,fun t b hb=> ?_⟩
   · rcases List.mem_cons.1 hw with rfl| hw
     · exact Nat.le_refl _
     · have:=i2 w hw;omega
   · cases t with
     | zero=>simp at hb;subst hb;exact⟨v,by simp,.ptr (by simp) bX jn cW gO hv⟩
     | succ t=>
       obtain⟨v',k1,k2⟩:=i3 t b (by simpa using hb)
       refine⟨v',by simpa using k1,?_⟩
       have e:i+(t+1)=i+1+t:=by omega
       rw[e];exact k2.more (fun r hr=>hr) (fun w hw=>by simp[hw])
 | @fresh i sz v rs as vs ws cJ hv h ih=>
   obtain⟨i1,i2,i3⟩:=ih
   refine⟨by simp[i1],fun w hw=> ?_,fun t b hb=> ?_⟩
   · rcases List.mem_cons.1 hw with rfl| hw
     · exact Nat.le_refl _
     · have:=i2 w hw;omega
   · cases t with
     | zero=>simp at hb;subst hb;exact⟨v,by simp,.fresh (by simp) cJ hv⟩
     | succ t=>
       obtain⟨v',k1,k2⟩:=i3 t b (by simpa using hb)
       refine⟨v',by simpa using k1,?_⟩
       have e:i+(t+1)=i+1+t:=by omega
       rw[e];exact k2.more (fun r hr=>hr) (fun w hw=>by simp[hw])
inductive NK:Nat→List fk→Prop
 | nil (i:Nat):NK i []
 | cons {i:Nat} {w:fk} {ws:List fk} (h:i≤w.i) (hs:NK (w.i+1) ws):NK i (w::ws)
theorem NK.le {i j:Nat} {ws:List fk} (h:NK j ws) (hij:i≤j):NK i ws:=by
 cases h with
 | nil=>exact .nil _
 | cons h hs=>exact .cons (by omega) hs
theorem NK.mem {i:Nat} {ws:List fk} (h:NK i ws): ∀w ∈ ws,i≤w.i:=by
 induction h with
 | nil=>simp
 | cons h hs ih=>
   intro w hw
   rcases List.mem_cons.1 hw with rfl| hw
   · exact h
   · have:=ih w hw;omega
theorem mg.inc {i:Nat} {as:List V} {vs:List Value} {rs:List Nat} {ws:List fk} (h:mg X μ r0 i as vs rs ws):NK i ws:=by
 induction h with
 | nil i=>exact .nil i
 | plain hp hs h ih=>exact ih.le (by omega)
 | sl _ _ _ _ _ _ h ih=>exact .cons (by simp) ih
 | ptr _ _ _ _ _ h ih=>exact .cons (by simp) ih
 | fresh _ _ h ih=>exact .cons (by simp) ih
theorem jJ {φ:Nat→Row} {i:Nat} {ws:List fk} (h:NK i ws): ∀w ∈ ws,ga φ ws w.i=(match w.fresh with| none=>φ w.r| some _=> ⟨0,0,0⟩):=by
 induction h with
 | nil=>simp
 | @cons i w ws h hs ih=>
   intro w' hw
   rcases List.mem_cons.1 hw with rfl| hw
   · simp[ga]
   · have:=hs.mem w' hw
     rw[ga,if_neg (by omega)]
     exact ih w' hw
theorem rW: ∀ {ws:List fk},distinct (ws.map (·.r))=true→ ∀w ∈ ws,∀w' ∈ ws,w.r=w'.r→w=w'
 | [],_,_,h,_,_,_=>by simp at h
 | w::ws,hd,a,ha,b,hb,e=>by
   simp only[List.map_cons,distinct,Bool.and_eq_true,Bool.not_eq_true',List.contains_eq_mem,decide_eq_false_iff_not] at hd
   rcases List.mem_cons.1 ha with ha| ha<;>rcases List.mem_cons.1 hb with hb| hb
   · rw[ha,hb]
   · exact absurd (List.mem_map.2 ⟨b,hb,by rw[←e,ha]⟩) hd.1
   · exact absurd (List.mem_map.2 ⟨a,ha,by rw[e,hb]⟩) hd.1
   · exact rW hd.2 a ha b hb e
def eB (X:Ctx) (μ:Mu) (rs:List Nat) (ws:List fk) (b:Nat):Prop:=
 X.RI b∨ ∃r,r ∉ rs∧r ∉ ws.map (·.r)∧(μ.O r).es.isSome=true∧(μ.O r).fz=false∧(μ.φ r).cap≠0∧(μ.φ r).dQ=b
theorem kY {as:List V} {vals:List Value} {rs:List Nat} {ws:List fk} (hp:mg X μ r0 0 as vals rs ws) (j:Nat):
   (enter as).O j=cb∨
   (∃r es,(⟨j,r,none⟩:fk) ∈ ws∧(μ.O r).es=some es∧(μ.O r).fz=false∧V.ae es=true∧((enter as).O j).gen=0∧((enter as).O j).sz=(μ.O r).sz∧((enter as).O j).fz=false∧((enter as).O j).es=some es∧ga μ.φ ws j=μ.φ r)∨
   (∃sz,(⟨j,r0+j,some sz⟩:fk) ∈ ws∧0 <sz∧((enter as).O j).gen=0∧((enter as).O j).sz=sz∧((enter as).O j).fz=false∧((enter as).O j).es=some []∧ga μ.φ ws j=⟨0,0,0⟩):=by
 obtain⟨hl,-,iO⟩:=hp.at
 have hi:=hp.inc
 cases ha:as[j]? with
 | none=>left;simp[enter,ha]
 | some a=>
   obtain⟨v,hv,hA⟩:=iO j a ha
   simp only[Nat.zero_add] at hA
   cases hA with
   | plain gO hs=>
     left
     cases a<;>simp[V.aj] at gO<;>simp[enter,ha]
   | @sl r g off len es v hw bX jn cW gO jh Fm=>
     right;left
     exact⟨r,es,hw,bX,jn,gO,by simp[enter,ha],by simp[enter,ha],by simp[enter,ha],by simp[enter,ha],by have:=jJ (φ:=μ.φ) hi _ hw;simpa using this⟩
   | @ptr r g idx off es v hw bX jn cW gO Fm=>
     right;left
     exact⟨r,es,hw,bX,jn,gO,by simp[enter,ha],by simp[enter,ha],by simp[enter,ha],by simp[enter,ha],by have:=jJ (φ:=μ.φ) hi _ hw;simpa using this⟩
   | @fresh sz v hw cJ Fm=>
     right;right
     exact⟨sz,hw,cJ,by simp[enter,ha],by simp[enter,ha],by simp[enter,ha],by simp[enter,ha],by have:=jJ (φ:=μ.φ) hi _ hw;simpa using this⟩
theorem Bs {as:List V} {vals:List Value} {rs:List Nat} {ws:List fk} (hp:mg X μ r0 0 as vals rs ws) {b:Nat} (h: (⟨μ.w,ga μ.φ ws,(enter as).O⟩:Mu).own b):
   ∃i r,(⟨i,r,none⟩:fk) ∈ ws∧(μ.O r).es.isSome=true∧(μ.O r).fz=false∧(μ.φ r).cap≠0∧(μ.φ r).dQ=b:=by
 obtain⟨j,h1,h2,h3,h4⟩:=h
 simp only at h1 h2 h3 h4
 rcases kY hp j with h| ⟨r,es,k1,k2,k3,k4,k5,k6,k7,k8,k9⟩ | ⟨sz,k1,k2,k3,k4,k5,k6,k7⟩
 · rw[h] at h1;simp[cb] at h1
 · rw[k9] at h3 h4
   exact⟨j,r,k1,by simp[k2],k3,h3,h4⟩
 · rw[k7] at h3;simp at h3
theorem JS {as:List V} {vals:List Value} {rs:List Nat} {ws:List fk} (ho:bQ X μ) (hp:mg X μ r0 0 as vals rs ws) (B9:apart rs (ws.map (·.r))=true) {b:Nat}
   (h:Own ⟨X.toTrEnv,eB X μ rs ws,X.tok⟩ ⟨μ.w,ga μ.φ ws,(enter as).O⟩ b):
   Own X μ b∧ ∀r ∈ rs,(μ.O r).es.isSome=true→(μ.φ r).cap≠0→b≠(μ.φ r).dQ:=by
 rcases h with h| h
 · obtain⟨i,r,h1,h2,h3,h4,h5⟩:=Bs hp h
   refine⟨.inl ⟨r,h2,h3,h4,h5⟩,fun r' vf k1 k2 e=> ?_⟩
   have cu:r≠r':=by
     rintro rfl
     have:=List.all_eq_true.1 B9 r (List.mem_map.2 ⟨_,h1,rfl⟩)
     simp[vf] at this
   exact ho.inj r r' cu h2 k1 h4 k2 (h5.trans e)
 · rcases h with h| ⟨r,h0,h1,h2,h3,h4,h5⟩
   · refine⟨.inr h,fun r' vf k1 k2 e=>ho.wL r' k1 k2 (e ▸ h)⟩
   · refine⟨.inl ⟨r,h2,h3,h4,h5⟩,fun r' vf k1 k2 e=> ?_⟩
     have cu:r≠r':=fun e=>h0 (e ▸ vf)
     exact ho.inj r r' cu h2 k1 h4 k2 (h5.trans e)
theorem wZ {as:List V} {vals:List Value} {rs:List Nat} {ws:List fk} (ho:bQ X μ) (hp:mg X μ r0 0 as vals rs ws) (B9:apart rs (ws.map (·.r))=true) (hd:distinct (ws.map (·.r))=true):
   vals.length=as.length∧(∀t v,vals[t]? =some v→au ⟨X.toTrEnv,eB X μ rs ws,X.tok⟩ ⟨μ.w,ga μ.φ ws,(enter as).O⟩ ((enter as).T t) v)∧
     bQ ⟨X.toTrEnv,eB X μ rs ws,X.tok⟩ ⟨μ.w,ga μ.φ ws,(enter as).O⟩:=by
 have gS:=fun b=>JS (b:=b) ho hp B9
 obtain⟨hl,-,iO⟩:=hp.at
 have hi:=hp.inc
 refine⟨hl.symm,fun t v hv=> ?_,?_⟩
 · have ha:t<as.length:=by rw[hl];exact(List.getElem?_eq_some_iff.1 hv).1
   obtain⟨v',Fk,hA⟩:=iO t as[t] (List.getElem?_eq_getElem ha)
   rw[hv] at Fk;injection Fk with Fk;subst Fk
   have EI:as[t]? =some as[t]:=List.getElem?_eq_getElem ha
   simp only[Nat.zero_add] at hA
   generalize hae:as[t]=a at hA EI
   cases hA with
   | plain gO hs=>
     have: (enter as).T t=a:=by cases a<;>simp[V.aj] at gO<;>simp[enter,EI]
     rw[this]
     exact hs _ _ rfl gS
   | @sl r g off len es v hw bX jn cW gO jh Fm=>
     have e1: (enter as).T t= .sl t 0 off len:=by simp[enter,EI]
     have e2: ((enter as).O t).gen=0∧((enter as).O t).sz=(μ.O r).sz:=by simp[enter,EI]
     have e3:ga μ.φ ws t=μ.φ r:=by have:=jJ (φ:=μ.φ) hi _ hw;simpa using this
     rw[e1]
     simp only[au] at Fm ⊢
     obtain⟨a,cap,rfl,q1,q2,q3⟩:=Fm
     refine⟨a,cap,rfl,q1,Nat.zero_le _,fun _=> ?_⟩
     rw[e2.2,e3];exact q3 cW
   | @ptr r g idx off es v hw bX jn cW gO Fm=>
     have e1: (enter as).T t= .ptr t 0 idx off:=by simp[enter,EI]
     have e2: ((enter as).O t).gen=0∧((enter as).O t).sz=(μ.O r).sz:=by simp[enter,EI]
     have e3:ga μ.φ ws t=μ.φ r:=by have:=jJ (φ:=μ.φ) hi _ hw;simpa using this
     rw[e1]
     simp only[au] at Fm ⊢
     obtain⟨a,rfl,q2,q3⟩:=Fm
     refine⟨a,rfl,Nat.zero_le _,fun _=> ?_⟩
     rw[e2.2,e3];exact q3 cW
   | @fresh sz v hw cJ Fm=>
     have e1: (enter as).T t= .sl t 0 0 0:=by simp[enter,EI]
     have e3:ga μ.φ ws t=⟨0,0,0⟩:=by have:=jJ (φ:=μ.φ) hi _ hw;simpa using this
     rw[e1]
     obtain⟨a,rfl⟩:=Fm
     simp only[au]
     exact⟨a,0,rfl,Nat.le_refl _,Nat.zero_le _,fun _=> ⟨by simp[enter,EI,cJ],by rw[e3],.inl rfl⟩⟩
 · refine⟨ fun j es bX=> ?_,fun j1 j2 cu h1 h2 h3 h4=> ?_,fun j h1 h2 hb=> ?_,fun b hb=> ?_⟩
   · rcases kY hp j with h| ⟨r,es',k1,k2,k3,k4,k5,k6,k7,k8,k9⟩ | ⟨sz,k1,k2,k3,k4,k5,k6,k7⟩
     · simp only[h,cb] at bX;simp at bX
     · simp only at bX
       rw[k8] at bX;injection bX with bX;subst bX
       rcases ho.ok r es' k2 with⟨q1,q2,q3,q4⟩ | ⟨m1,m2,ob,m3,m4⟩
       · refine .inl ?_
         unfold mq
         simp only[k6,k9]
         refine⟨q1,q2,q3,q4.imp id ?_⟩
         rintro⟨c,T,vs,p1,p2,p3,p4⟩
         exact⟨c,T,vs,p1,p2,ca (X:=X) (μ:=μ) (μ':=⟨μ.w,ga μ.φ ws,(enter as).O⟩) rfl (fun b hb=> (gS b hb).1) k4 p3,p4⟩
       · refine .inr ?_
         unfold ur
         simp only[k6,k9]
         refine⟨m1,m2,ob,m3,?_⟩
         rcases m4 with⟨ents,clock,e1,e2,e3⟩ | m4| ⟨mo,since,sW,e1,e2,e3⟩
         · exact .inl ⟨ents,clock,e1,ca (X:=X) (μ:=μ) (μ':=⟨μ.w,ga μ.φ ws,(enter as).O⟩) rfl (fun b hb=> (gS b hb).1) k4 e2,e3⟩
         · exact .inr (.inl m4)
         · subst e2
           refine .inr (.inr ⟨mo,since,sW,e1,rfl,e3.imp id ?_⟩)
           rintro⟨m,ents,l1,l2,l3,l4,l5,l6⟩
           exact⟨m,ents,l1,fun h=>l2 (gS m h).1,l3,l4,l5,ca (X:=X) (μ:=μ) (μ':=⟨μ.w,ga μ.φ ws,(enter as).O⟩) rfl (fun b hb=> (gS b hb).1) (by simpa [V.ae,V.aj] using k4) l6⟩
     · simp only at bX
       rw[k6] at bX;injection bX with bX;subst bX
       refine .inl ?_
       unfold mq
       simp only[k4,k7]
       exact⟨k2,by simp,rfl,by simp⟩
   · simp only at h1 h2 h3 h4 ⊢
     rcases kY hp j1 with h| ⟨r,es',k1,k2,k3,k4,k5,k6,k7,k8,k9⟩ | ⟨sz,k1,k2,k3,k4,k5,k6,k7⟩
     · rw[h] at h1;simp[cb] at h1
     · rcases kY hp j2 with h| ⟨r',es2,l1,l2,l3,l4,l5,l6,l7,l8,l9⟩ | ⟨sz,l1,l2,l3,l4,l5,l6,l7⟩
       · rw[h] at h2;simp[cb] at h2
       · rw[k9] at h3 ⊢
         rw[l9] at h4 ⊢
         refine ho.inj r r' (fun e=> ?_) (by simp[k2]) (by simp[l2]) h3 h4
         have:=rW hd _ k1 _ l1 e
         injection this with e1;exact cu e1
       · rw[l7] at h4;simp at h4
     · rw[k7] at h3;simp at h3
   · simp only at h1 h2 hb
     rcases kY hp j with h| ⟨r,es',k1,k2,k3,k4,k5,k6,k7,k8,k9⟩ | ⟨sz,k1,k2,k3,k4,k5,k6,k7⟩
     · rw[h] at h1;simp[cb] at h1
     · rw[k9] at h2 hb
       rcases hb with hb| ⟨r',g0,g1,g2,g3,g4,g5⟩
       · exact ho.wL r (by simp[k2]) h2 hb
       · have cu:r'≠r:=fun e=>g1 (List.mem_map.2 ⟨_,k1,e.symm⟩)
         exact ho.inj r' r cu g2 (by simp[k2]) g4 h2 g5
     · rw[k7] at h2;simp at h2
   · rcases hb with hb| ⟨r',g0,g1,g2,g3,g4,g5⟩
     · exact ho.blt b hb
     · obtain⟨es',he⟩:=Option.isSome_iff_exists.1 g2
       rw[←g5];exact gF.dQ (ho.ok r' es' he) g4
end
end Go.AM
namespace Go.AM
open Go Go.RowKit
section
variable {X X':Ctx} {μ μ':Mu}
mutual
theorem weaken (hX:X'.toTrEnv=X.toTrEnv) (hk:X'.tok=X.tok) (hw:μ'.w=μ.w) (hφ:μ'.φ=μ.φ) (hO: ∀r,(μ'.O r).gen=(μ.O r).gen∧(μ'.O r).sz=(μ.O r).sz) (ho: ∀b,Own X' μ' b→Own X μ b): ∀ {x:V} {v:Value},au X μ x v→au X' μ' x v
 | .bool _,_,h| .int ..,_,h| .float _,_,h| .str _,_,h| .nilp,_,h| .nilfn,_,h| .nili,_,h| .nils,_,h=>by simpa [au] using h
 | .any,_,_=>by simp[au]
 | .own ..,_,h| .msl ..,_,h| .mptr ..,_,h=>by simp[au] at h
 | .agg cs,_,h=>by
   simp only[au] at h ⊢
   obtain⟨h1,vs,rfl,h2⟩:=h
   exact⟨h1,vs,rfl,mA hX hk hw hφ hO ho h2⟩
 | .tuple cs,_,h=>by
   simp only[au] at h ⊢
   obtain⟨vs,rfl,h2⟩:=h
   exact⟨vs,rfl,mA hX hk hw hφ hO ho h2⟩
 | .bfn f cs,_,h=>by
   simp only[au] at h ⊢
   obtain⟨F,cv,rfl,h1,h2⟩:=h
   exact⟨F,cv,rfl,by rw[hX];exact h1,mA hX hk hw hφ hO ho h2⟩
 | .fn f cs,_,h=>by
   simp only[au] at h ⊢
   obtain⟨F,cv,rfl,h1,h2⟩:=h
   exact⟨F,cv,rfl,by rw[hX];exact h1,mA hX hk hw hφ hO ho h2⟩
 | .iface t x,_,h=>by
   simp only[au] at h ⊢
   obtain⟨F,y,rfl,h1,h2⟩:=h
   exact⟨F,y,rfl,by rw[hX];exact h1,weaken hX hk hw hφ hO ho h2⟩
 | .lit sz xs,_,h=>by
   simp only[au] at h ⊢
   obtain⟨h0,lY,a,cap,vs,rfl,h1,h2,h3⟩:=h
   refine⟨h0,lY,a,cap,vs,rfl,h1,mA hX hk hw hφ hO ho h2,h3.imp id ?_⟩
   rintro⟨b,o,rfl,hb,hs,hr⟩
   exact⟨b,o,rfl,fun hh=>hb (ho b hh),by rw[hw];exact hs,by rw[hw];exact hr⟩
 | .sl r g off len,_,h=>by
   simp only[au] at h ⊢
   rw[hφ,(hO r).1,(hO r).2];exact h
 | .ptr r g idx off,_,h=>by
   simp only[au] at h ⊢
   rw[hφ,(hO r).1,(hO r).2];exact h
 | .litk sz xs,_,h=>by
   simp only[au] at h ⊢
   obtain⟨h0,lY,a,cap,vs,rfl,h1,h2,h3⟩:=h
   refine⟨h0,lY,a,cap,vs,rfl,h1,mA hX hk hw hφ hO ho h2,h3.imp id ?_⟩
   rintro⟨rfl,hb,hs,hr⟩
   rw[hk]
   exact⟨rfl,fun hh=>hb (ho _ hh),by rw[hw];exact hs,by rw[hw];exact hr⟩
 | .epk i sz e off,_,h=>by
   simp only[au] at h ⊢
   obtain⟨h0,lY,x,rfl,hb,hs,h1,hr⟩:=h
   rw[hk]
   exact⟨h0,lY,x,rfl,fun hh=>hb (ho _ hh),by rw[hw];exact hs,weaken hX hk hw hφ hO ho h1,by rw[hw];exact hr⟩
 | .eptr e off,_,h=>by
   simp only[au] at h ⊢
   obtain⟨h0,lY,b,o,sz,x,rfl,hb,hs,h1,hr⟩:=h
   exact⟨h0,lY,b,o,sz,x,rfl,fun hh=>hb (ho b hh),by rw[hw];exact hs,weaken hX hk hw hφ hO ho h1,by rw[hw];exact hr⟩
 | .mp r g,_,h| .it r g,_,h=>by
   simp only[au] at h ⊢
   rw[hφ,(hO r).1,(hO r).2];exact h
 | .mlit es,_,h=>by
   simp only[au] at h ⊢
   obtain⟨h0,h⟩:=h
   refine⟨h0,h.imp id ?_⟩
   rintro⟨a,ents,clock,rfl,hb,hs,h1,h2⟩
   exact⟨a,ents,clock,rfl,fun hh=>hb (ho a hh),by rw[hw];exact hs,by rw[hw];exact h1,mA hX hk hw hφ hO ho h2⟩
theorem mA (hX:X'.toTrEnv=X.toTrEnv) (hk:X'.tok=X.tok) (hw:μ'.w=μ.w) (hφ:μ'.φ=μ.φ) (hO: ∀r,(μ'.O r).gen=(μ.O r).gen∧(μ'.O r).sz=(μ.O r).sz) (ho: ∀b,Own X' μ' b→Own X μ b): ∀ {xs:List V} {vs:List Value},ak X μ xs vs→ak X' μ' xs vs
 | [],[],_=>by simp[ak]
 | [],_::_,h=>by simp[ak] at h
 | _::_,[],h=>by simp[ak] at h
 | x::xs,v::vs,h=>by
   simp only[ak] at h ⊢
   exact⟨weaken hX hk hw hφ hO ho h.1,mA hX hk hw hφ hO ho h.2⟩
end
mutual
theorem oP (hX:X'.toTrEnv=X.toTrEnv): ∀ {x:V} {v:Value},V.isScalar x=true→au X μ x v→au X' μ' x v
 | .bool _,_,_,h| .int ..,_,_,h| .float _,_,_,h| .str _,_,_,h| .nilp,_,_,h| .nilfn,_,_,h| .nili,_,_,h| .nils,_,_,h=>by simpa [au] using h
 | .any,_,hp,_| .own ..,_,hp,_| .msl ..,_,hp,_| .mptr ..,_,hp,_| .sl ..,_,hp,_| .ptr ..,_,hp,_| .lit ..,_,hp,_| .eptr ..,_,hp,_| .litk ..,_,hp,_| .epk ..,_,hp,_| .mp ..,_,hp,_| .it ..,_,hp,_| .mlit ..,_,hp,_| .bfn ..,_,hp,_| .fn ..,_,hp,_| .iface ..,_,hp,_=>by simp[V.isScalar] at hp
 | .agg cs,_,hp,h=>by
   simp only[au] at h ⊢
   obtain⟨h1,vs,rfl,h2⟩:=h
   exact⟨h1,vs,rfl,gN hX (by simpa [V.isScalar] using hp) h2⟩
 | .tuple cs,_,hp,h=>by
   simp only[au] at h ⊢
   obtain⟨vs,rfl,h2⟩:=h
   exact⟨vs,rfl,gN hX (by simpa [V.isScalar] using hp) h2⟩
theorem gN (hX:X'.toTrEnv=X.toTrEnv): ∀ {xs:List V} {vs:List Value},V.bS xs=true→ak X μ xs vs→ak X' μ' xs vs
 | [],[],_,_=>by simp[ak]
 | [],_::_,_,h=>by simp[ak] at h
 | _::_,[],_,h=>by simp[ak] at h
 | x::xs,v::vs,hp,h=>by
   simp only[ak] at h ⊢
   simp only[V.bS,Bool.and_eq_true] at hp
   exact⟨oP hX hp.1 h.1,gN hX hp.2 h.2⟩
end
end
structure GA (Y:Ctx) (μf μ1:Mu) (r j:Nat) (row:Row) (o:Obj):Prop where
 es: ∃es,o.es=some es∧V.ae es=true∧0 <o.sz∧es.length≤row.cap∧es.all (aZ · o.sz)=true∧
  (row.cap=0∨ ∃c T vs,μ1.w.heap[row.dQ]? =some (.cells c T (0,0))∧row.base+row.cap*o.sz≤c.size∧ak Y μ1 es vs∧fb μ1.w row.dQ row.base o.sz vs)
 live: (μ1.O j).es.isSome=true∧(μ1.O j).fz=false
 dQ:row.cap≠0→(μ1.φ j).cap≠0∧row.dQ=(μ1.φ j).dQ
 gen: (μf.O r).gen<o.gen∨(o.gen=(μf.O r).gen∧row=μf.φ r∧o.sz=(μf.O r).sz)
 sc: (∀es,(μ1.O j).es=some es→V.bS es=true)→ ∀es,o.es=some es→V.bS es=true
structure gH (Y:Ctx) (μf μ1:Mu) (U:Nat→Prop) (A:Nat→Option Nat) (φ:Nat→Row) (O:Nat→Obj):Prop where
 vh: ∀r,A r=none→O r=μf.O r∧φ r=μf.φ r
 CO: ∀r j,A r=some j→GA Y μf μ1 r j (φ r) (O r)∧U j
 inj: ∀r1 r2 j,A r1=some j→A r2=some j→r1=r2
def eQ (φ:Nat→Row) (O:Nat→Obj) (φ':Nat→Row) (O':Nat→Obj):Prop:=
 ∀r,(O r).gen≤(O' r).gen∧((O' r).gen=(O r).gen→φ' r=φ r∧(O' r).sz=(O r).sz)
theorem eQ.refl (φ:Nat→Row) (O:Nat→Obj):eQ φ O φ O:=fun _=> ⟨Nat.le_refl _,fun _=> ⟨rfl,rfl⟩⟩
theorem eQ.trans {φ φ' φ'':Nat→Row} {O O' O'':Nat→Obj} (h:eQ φ O φ' O') (k:eQ φ' O' φ'' O''):eQ φ O φ'' O'':=fun r=>by
 obtain⟨h1,h2⟩:=h r
 obtain⟨k1,k2⟩:=k r
 refine⟨Nat.le_trans h1 k1,fun e=> ?_⟩
 obtain⟨a1,a2⟩:=h2 (by omega)
 obtain⟨b1,b2⟩:=k2 (by omega)
 exact⟨b1.trans a1,b2.trans a2⟩
def oQ (μ1:Mu) (φ:Nat→Row) (O:Nat→Obj) (i r g:Nat):Prop:=g≤(O r).gen∧((O r).gen=g→φ r=μ1.φ i∧(O r).sz=(μ1.O i).sz)
theorem oQ.mono {μ1:Mu} {φ φ':Nat→Row} {O O':Nat→Obj} {i r g:Nat} (h:oQ μ1 φ O i r g) (m:eQ φ O φ' O'):oQ μ1 φ' O' i r g:=by
 obtain⟨m1,m2⟩:=m r
 refine⟨Nat.le_trans h.1 m1,fun e=> ?_⟩
 have:=h.1
 obtain⟨a1,a2⟩:=m2 (by omega)
 obtain⟨b1,b2⟩:=h.2 (by omega)
 exact⟨a1.trans b1,a2.trans b2⟩
theorem gH.take {Y:Ctx} {μf μ1:Mu} {U U':Nat→Prop} {A:Nat→Option Nat} {φ:Nat→Row} {O:Nat→Obj} (h:gH Y μf μ1 U A φ O) {r j:Nat} {row:Row} {o:Obj} (hj: ¬U j) (hU: ∀i,U i→U' i) (hUj:U' j)
  (ht:GA Y μf μ1 r j row o):gH Y μf μ1 U' (eI A r (some j)) (eI φ r row) (eI O r o) where
 vh:=fun r' e=>by
  by_cases e':r'=r
  · subst e';simp[aL] at e
  · rw[bu _ _ e'] at e ⊢;rw[bu _ _ e'];exact h.vh r' e
 CO:=fun r' j' e=>by
  by_cases e':r'=r
  · subst e';simp only[aL] at e ⊢;injection e with e;subst e;exact⟨ht,hUj⟩
  · rw[bu _ _ e'] at e ⊢;rw[bu _ _ e']
    obtain⟨k1,k2⟩:=h.CO r' j' e
    exact⟨k1,hU _ k2⟩
 inj:=fun r1 r2 j' e1 e2=>by
  by_cases q1:r1=r<;>by_cases q2:r2=r
  · rw[q1,q2]
  · subst q1
    simp only[aL] at e1;injection e1 with e1;subst e1
    rw[bu _ _ q2] at e2
    exact absurd (h.CO r2 _ e2).2 hj
  · subst q2
    simp only[aL] at e2;injection e2 with e2;subst e2
    rw[bu _ _ q1] at e1
    exact absurd (h.CO r1 _ e1).2 hj
  · rw[bu _ _ q1] at e1
    rw[bu _ _ q2] at e2
    exact h.inj r1 r2 j' e1 e2
theorem eQ.eI {φ:Nat→Row} {O:Nat→Obj} {r:Nat} {row:Row} {o:Obj} (h: (O r).gen<o.gen∨(o.gen=(O r).gen∧row=φ r∧o.sz=(O r).sz)):eQ φ O (eI φ r row) (eI O r o):=fun r'=>by
 by_cases e:r'=r
 · subst e
   simp only[aL]
   rcases h with h| ⟨h1,h2,h3⟩
   · exact⟨by omega,fun e=>by omega⟩
   · exact⟨by omega,fun _=> ⟨h2,h3⟩⟩
 · simp[bu _ _ e]
end Go.AM
namespace Go.AM
open Go Go.RowKit
section
variable {X Y:Ctx} {μ μf μ1:Mu} {r0:Nat} {C:bO} {T:Nat→V}
theorem sK (h1:bQ Y μ1) {r i:Nat} {es:List V} {o:Obj} (h0:0 < (μ1.O i).sz) (bX: (μ1.O i).es=some es) (jn: (μ1.O i).fz=false) (hp:V.ae es=true) (ho:o.es=some es) (cJ:o.sz=(μ1.O i).sz)
  (hg: (μf.O r).gen<o.gen∨(o.gen=(μf.O r).gen∧μ1.φ i=μf.φ r∧o.sz=(μf.O r).sz)):GA Y μf μ1 r i (μ1.φ i) o:=by
 obtain⟨q1,q2,q3,q4⟩:=h1.row i es bX h0
 refine⟨⟨es,ho,hp,by rw[cJ];exact q1,q2,by rw[cJ];exact q3,?_⟩,⟨by simp[bX],jn⟩,fun hc=> ⟨hc,rfl⟩,hg,fun hs es' he=> ?_⟩
 · rw[cJ];exact q4
 · rw[ho] at he;injection he with he;subst he;exact hs _ bX
theorem kP {O:Nat→Obj} {i sz off len:Nat} {sW:List V} {as:List V} {outs:List (Nat×List V)} (h:cA O i (.msl sz sW off len::as)=some outs):
   ∃es lQ,(O i).es=some es∧cA O (i+1) as=some lQ∧(O i).fz=false∧(O i).sz=sz∧V.ae es=true∧outs=((O i).gen,es)::lQ:=by
 simp only[cA] at h
 split at h
 · rename_i es lQ h1 h2
   split at h
   · rename_i hc
     injection h with h
     exact⟨es,lQ,h1,h2,hc.1,hc.2.1,hc.2.2,h.symm⟩
   · simp at h
 · simp at h
theorem rX {O:Nat→Obj} {i sz off len:Nat} {sW:List V} {as:List V} {outs:List (Nat×List V)} (h:cA O i (.mptr sz sW off len::as)=some outs):
   ∃es lQ,(O i).es=some es∧cA O (i+1) as=some lQ∧(O i).fz=false∧(O i).sz=sz∧V.ae es=true∧outs=((O i).gen,es)::lQ:=by
 simp only[cA] at h
 split at h
 · rename_i es lQ h1 h2
   split at h
   · rename_i hc
     injection h with h
     exact⟨es,lQ,h1,h2,hc.1,hc.2.1,hc.2.2,h.symm⟩
   · simp at h
 · simp at h
theorem qf {O:Nat→Obj} {i:Nat} {a:V} {as:List V} (h:V.aj a=true):cA O i (a::as)=cA O (i+1) as:=by
 cases a<;>simp[V.aj] at h<;>rfl
theorem rY (h1:bQ Y μ1) {w0:List fk} (iY: ∀w ∈ w0,w.fresh=none→(μ1.O w.i).gen=0→μ1.φ w.i=μ.φ w.r) (hφ:μf.φ=μ.φ) (NL: ∀w ∈ w0,μf.O w.r=μ.O w.r) {S:Nat→Prop} (hS: ∀w ∈ w0,S w.i):
   ∀ {i:Nat} {as:List V} {vs:List Value} {rs:List Nat} {ws:List fk},mg X μ r0 i as vs rs ws→ ∀ {outs:List (Nat×List V)} {A:Nat→Option Nat} {φ:Nat→Row} {O:Nat→Obj} {k:List (Nat×Nat×Nat)→Act} {p:V×St},
     cA μ1.O i as=some outs→gH Y μf μ1 (fun j=>j<i∧S j) A φ O→(∀w ∈ ws,w ∈ w0)→(∀w ∈ ws,A w.r=none)→distinct (ws.map (·.r))=true→(dB ws outs k).run C ⟨T,O⟩=some p→
     ∃A' φ' O' gs,(k gs).run C ⟨T,O'⟩=some p∧gH Y μf μ1 (fun j=>j<i+as.length∧S j) A' φ' O'∧eQ φ O φ' O'∧(∀w ∈ ws,A' w.r≠none)∧(∀r,A r≠none→A' r≠none)∧
       ∀x ∈ gs,oQ μ1 φ' O' x.1 x.2.1 x.2.2:=by
 intro i as vs rs ws hp
 induction hp with
 | nil i=>
   intro outs A φ O k p ho ht _ _ _ ag
   simp[cA] at ho;subst ho
   exact⟨A,φ,O,[],ag,by simpa using ht,eQ.refl _ _,by simp,fun _ h=>h,by simp⟩
 | @plain i a v rs rs' as vs ws gO hs h ih=>
   intro outs A φ O k p ho ht hw hA hd ag
   rw[qf gO] at ho
   have Af:gH Y μf μ1 (fun j=>j<i+1∧S j) A φ O:=⟨ht.vh,fun r j e=> ⟨(ht.CO r j e).1,⟨by have:=(ht.CO r j e).2.1;omega,(ht.CO r j e).2.2⟩⟩,ht.inj⟩
   obtain⟨A',φ',O',gs,k1,k2,k3,k4,k5,k6⟩:=ih ho Af hw hA hd ag
   refine⟨A',φ',O',gs,k1,?_,k3,k4,k5,k6⟩
   have e:i+(a::as).length=i+1+as.length:=by simp;omega
   rw[e];exact k2
 | @sl i r g off len sW v rs as vs ws bX jn cW gO jh hv h ih=>
   intro outs A φ O k p ho ht hw hA hd ag
   obtain⟨es,lQ,o1,o2,o3,o4,o5,rfl⟩:=kP ho
   simp only[dB,Act.run] at ag
   have RZ:=hA ⟨i,r,none⟩ (by simp)
   simp only at RZ
   obtain⟨n1,n2⟩:=ht.vh r RZ
   have hOr:μf.O r=μ.O r:=NL ⟨i,r,none⟩ (hw _ (by simp))
   have zE: (μf.O r).gen< (O r).gen+(μ1.O i).gen∨((O r).gen+(μ1.O i).gen=(μf.O r).gen∧μ1.φ i=μf.φ r∧(O r).sz=(μf.O r).sz):=by
     rw[n1]
     by_cases hz: (μ1.O i).gen=0
     · right;refine⟨by omega,?_,rfl⟩
       rw[hφ];exact iY ⟨i,r,none⟩ (hw _ (by simp)) rfl hz
     · left;omega
   have Dc:GA Y μf μ1 r i (μ1.φ i) {O r with gen:=(O r).gen+(μ1.O i).gen,es:=some es}:=
     sK h1 (by rw[o4];simp only[au] at hv;obtain⟨_,_,_,_,_,hh⟩:=hv;exact(hh cW).1) o1 o3 o5 rfl (by simp only[n1,hOr];exact o4.symm) zE
   have Af:=ht.take (U':=fun j=>j<i+1∧S j) (by simp) (fun j hj=> ⟨by omega,hj.2⟩) ⟨by simp,hS ⟨i,r,none⟩ (hw _ (by simp))⟩ Dc
   have hm:eQ φ O (eI φ r (μ1.φ i)) (eI O r {O r with gen:=(O r).gen+(μ1.O i).gen,es:=some es}):=by
     refine eQ.eI ?_
     rw[n2]
     have:=zE
     rw[←n1] at this
     exact this.imp id fun hh=> ⟨hh.1,hh.2.1,hh.2.2⟩
   simp only[List.map_cons,distinct,Bool.and_eq_true,Bool.not_eq_true',List.contains_eq_mem,decide_eq_false_iff_not] at hd
   obtain⟨A',φ',O',gs,k1,k2,k3,k4,k5,k6⟩:=ih o2 Af (fun w pX=>hw w (by simp[pX])) (fun w pX=>by
     have:w.r≠r:=fun e=>hd.1 (List.mem_map.2 ⟨w,pX,e⟩)
     rw[bu _ _ this];exact hA w (by simp[pX])) hd.2 ag
   refine⟨A',φ',O',_,k1,?_,hm.trans k3,fun w pX=> ?_,fun r' vf=>k5 r' ?_,fun x hx=> ?_⟩
   · have e:i+(V.msl (μ.O r).sz sW off len::as).length=i+1+as.length:=by simp;omega
     rw[e];exact k2
   · rcases List.mem_cons.1 pX with rfl| pX
     · exact k5 r (by simp[aL])
     · exact k4 w pX
   · by_cases e:r'=r
     · subst e;simp[aL]
     · rw[bu _ _ e];exact vf
   · rcases List.mem_cons.1 hx with rfl| hx
     · refine oQ.mono ⟨?_,fun _=> ?_⟩ k3
       · simp[aL]
       · simp only[aL];exact⟨trivial,by rw[n1,hOr];exact o4.symm⟩
     · exact k6 x hx
 | @ptr i r g idx off sW v rs as vs ws bX jn cW gO hv h ih=>
   intro outs A φ O k p ho ht hw hA hd ag
   obtain⟨es,lQ,o1,o2,o3,o4,o5,rfl⟩:=rX ho
   simp only[dB,Act.run] at ag
   have RZ:=hA ⟨i,r,none⟩ (by simp)
   simp only at RZ
   obtain⟨n1,n2⟩:=ht.vh r RZ
   have hOr:μf.O r=μ.O r:=NL ⟨i,r,none⟩ (hw _ (by simp))
   have zE: (μf.O r).gen< (O r).gen+(μ1.O i).gen∨((O r).gen+(μ1.O i).gen=(μf.O r).gen∧μ1.φ i=μf.φ r∧(O r).sz=(μf.O r).sz):=by
     rw[n1]
     by_cases hz: (μ1.O i).gen=0
     · right;refine⟨by omega,?_,rfl⟩
       rw[hφ];exact iY ⟨i,r,none⟩ (hw _ (by simp)) rfl hz
     · left;omega
   have Dc:GA Y μf μ1 r i (μ1.φ i) {O r with gen:=(O r).gen+(μ1.O i).gen,es:=some es}:=
     sK h1 (by rw[o4];simp only[au] at hv;obtain⟨_,_,_,hh⟩:=hv;exact(hh cW).1) o1 o3 o5 rfl (by simp only[n1,hOr];exact o4.symm) zE
   have Af:=ht.take (U':=fun j=>j<i+1∧S j) (by simp) (fun j hj=> ⟨by omega,hj.2⟩) ⟨by simp,hS ⟨i,r,none⟩ (hw _ (by simp))⟩ Dc
   have hm:eQ φ O (eI φ r (μ1.φ i)) (eI O r {O r with gen:=(O r).gen+(μ1.O i).gen,es:=some es}):=by
     refine eQ.eI ?_
     rw[n2]
     have:=zE
     rw[←n1] at this
     exact this.imp id fun hh=> ⟨hh.1,hh.2.1,hh.2.2⟩
   simp only[List.map_cons,distinct,Bool.and_eq_true,Bool.not_eq_true',List.contains_eq_mem,decide_eq_false_iff_not] at hd
   obtain⟨A',φ',O',gs,k1,k2,k3,k4,k5,k6⟩:=ih o2 Af (fun w pX=>hw w (by simp[pX])) (fun w pX=>by
     have:w.r≠r:=fun e=>hd.1 (List.mem_map.2 ⟨w,pX,e⟩)
     rw[bu _ _ this];exact hA w (by simp[pX])) hd.2 ag
   refine⟨A',φ',O',_,k1,?_,hm.trans k3,fun w pX=> ?_,fun r' vf=>k5 r' ?_,fun x hx=> ?_⟩
   · have e:i+(V.mptr (μ.O r).sz sW idx off::as).length=i+1+as.length:=by simp;omega
     rw[e];exact k2
   · rcases List.mem_cons.1 pX with rfl| pX
     · exact k5 r (by simp[aL])
     · exact k4 w pX
   · by_cases e:r'=r
     · subst e;simp[aL]
     · rw[bu _ _ e];exact vf
   · rcases List.mem_cons.1 hx with rfl| hx
     · refine oQ.mono ⟨?_,fun _=> ?_⟩ k3
       · simp[aL]
       · simp only[aL];exact⟨trivial,by rw[n1,hOr];exact o4.symm⟩
     · exact k6 x hx
 | @fresh i sz v rs as vs ws cJ hv h ih=>
   intro outs A φ O k p ho ht hw hA hd ag
   obtain⟨es,lQ,o1,o2,o3,o4,o5,rfl⟩:=kP ho
   simp only[dB,Act.run] at ag
   have RZ:=hA ⟨i,r0+i,some sz⟩ (by simp)
   simp only at RZ
   obtain⟨n1,n2⟩:=ht.vh (r0+i) RZ
   have Dc:GA Y μf μ1 (r0+i) i (μ1.φ i) {gen:=(O (r0+i)).gen+1,sz,arr:=true,fz:=false,es:=some es}:=
     sK h1 (by rw[o4];exact cJ) o1 o3 o5 rfl o4.symm (.inl (by simp only[n1];omega))
   have Af:=ht.take (U':=fun j=>j<i+1∧S j) (by simp) (fun j hj=> ⟨by omega,hj.2⟩) ⟨by simp,hS ⟨i,r0+i,some sz⟩ (hw _ (by simp))⟩ Dc
   have hm:eQ φ O (eI φ (r0+i) (μ1.φ i)) (eI O (r0+i) {gen:=(O (r0+i)).gen+1,sz,arr:=true,fz:=false,es:=some es}):=
     eQ.eI (.inl (by simp))
   simp only[List.map_cons,distinct,Bool.and_eq_true,Bool.not_eq_true',List.contains_eq_mem,decide_eq_false_iff_not] at hd
   obtain⟨A',φ',O',gs,k1,k2,k3,k4,k5,k6⟩:=ih o2 Af (fun w pX=>hw w (by simp[pX])) (fun w pX=>by
     have:w.r≠r0+i:=fun e=>hd.1 (List.mem_map.2 ⟨w,pX,e⟩)
     rw[bu _ _ this];exact hA w (by simp[pX])) hd.2 ag
   refine⟨A',φ',O',_,k1,?_,hm.trans k3,fun w pX=> ?_,fun r' vf=>k5 r' ?_,fun x hx=> ?_⟩
   · have e:i+(V.msl sz [] 0 0::as).length=i+1+as.length:=by simp;omega
     rw[e];exact k2
   · rcases List.mem_cons.1 pX with rfl| pX
     · exact k5 (r0+i) (by simp[aL])
     · exact k4 w pX
   · by_cases e:r'=r0+i
     · subst e;simp[aL]
     · rw[bu _ _ e];exact vf
   · rcases List.mem_cons.1 hx with rfl| hx
     · refine oQ.mono ⟨?_,fun _=> ?_⟩ k3
       · simp[aL]
       · simp only[aL];exact⟨trivial,o4.symm⟩
     · exact k6 x hx
theorem Mt {O:Nat→Obj} {i:Nat} {as:List V} {vs:List Value} {rs:List Nat} {ws:List fk} (hp:mg X μ r0 i as vs rs ws): ∀ {outs:List (Nat×List V)},cA O i as=some outs→
   ∀w ∈ ws,∃g es,(O w.i).es=some es∧(g,es) ∈ outs:=by
 induction hp with
 | nil i=>intro outs _ w hw;simp at hw
 | plain gO hs h ih=>intro outs ho;rw[qf gO] at ho;exact ih ho
 | @sl i r g off len sW v rs as vs ws bX jn cW gO jh hv h ih=>
   intro outs ho w hw
   obtain⟨es,lQ,o1,o2,o3,o4,o5,rfl⟩:=kP ho
   rcases List.mem_cons.1 hw with rfl| hw
   · exact⟨_,es,o1,List.mem_cons_self⟩
   · obtain⟨g,es',k1,k2⟩:=ih o2 w hw;exact⟨g,es',k1,by simp[k2]⟩
 | @ptr i r g idx off sW v rs as vs ws bX jn cW gO hv h ih=>
   intro outs ho w hw
   obtain⟨es,lQ,o1,o2,o3,o4,o5,rfl⟩:=rX ho
   rcases List.mem_cons.1 hw with rfl| hw
   · exact⟨_,es,o1,List.mem_cons_self⟩
   · obtain⟨g,es',k1,k2⟩:=ih o2 w hw;exact⟨g,es',k1,by simp[k2]⟩
 | @fresh i sz v rs as vs ws cJ hv h ih=>
   intro outs ho w hw
   obtain⟨es,lQ,o1,o2,o3,o4,o5,rfl⟩:=kP ho
   rcases List.mem_cons.1 hw with rfl| hw
   · exact⟨_,es,o1,List.mem_cons_self⟩
   · obtain⟨g,es',k1,k2⟩:=ih o2 w hw;exact⟨g,es',k1,by simp[k2]⟩
end
end Go.AM
namespace Go.AM
open Go Go.RowKit
def after (Y:Ctx) (μ1:Mu) (n:Nat) (b6:Bool) (b:Nat):Prop:=
 Y.RI b∨ ∃j,(b6=true∨j<n)∧(μ1.O j).es.isSome=true∧(μ1.O j).fz=false∧(μ1.φ j).cap≠0∧(μ1.φ j).dQ=b
def quiet (μ1:Mu) (φ:Nat→Row) (O:Nat→Obj):Mu:=⟨μ1.w,φ,fun r=> {O r with fz:=true}⟩
theorem vX {μ1:Mu} {φ:Nat→Row} {O:Nat→Obj} {b:Nat}: ¬ (quiet μ1 φ O).own b:=by
 rintro⟨r,_,h,_⟩;simp[quiet] at h
theorem EJ {μ1:Mu} {φ φ':Nat→Row} {O O':Nat→Obj} (h:eQ φ O φ' O'):Le (quiet μ1 φ O) (quiet μ1 φ' O'):=
 ⟨Nat.le_refl _,fun _ _ _=> ⟨rfl,vX⟩,fun r=> (h r).1,fun r e=> (h r).2 e,rfl,rfl,rfl,fun _ _=>rfl⟩
theorem kB: ∀ {as bs:List Nat},distinct (as++bs)=true→distinct as=true∧distinct bs=true∧ ∀b ∈ bs,b ∉ as
 | [],bs,h=> ⟨rfl,h,fun _ _=>by simp⟩
 | a::as,bs,h=>by
   simp only[List.cons_append,distinct,Bool.and_eq_true,Bool.not_eq_true',List.contains_eq_mem,decide_eq_false_iff_not,List.mem_append,not_or] at h ⊢
   obtain⟨h1,h2⟩:=h
   obtain⟨k1,k2,k3⟩:=kB h2
   refine⟨⟨h1.1,k1⟩,k2,fun b hb=> ?_⟩
   simp only[List.mem_cons,not_or]
   exact⟨fun e=>h1.2 (e ▸ hb),k3 b hb⟩
theorem w7 {i r g:Nat}: ∀ {gs:List (Nat×Nat×Nat)},gJ i gs=some (r,g)→(i,r,g) ∈ gs
 | [],h=>by simp[gJ] at h
 | (j,r',g')::gs,h=>by
   simp only[gJ] at h
   split at h
   · rename_i e
     subst e
     simp only[Option.some.injEq,Prod.mk.injEq] at h
     simp[h.1,h.2]
   · exact List.mem_cons_of_mem _ (w7 h)
theorem qg: ∀ {es:List V} (n:Nat),V.bS es=true→V.bS (es.take n)=true
 | _,0,_=>by simp[V.bS]
 | [],_+1,_=>by simp[V.bS]
 | x::xs,n+1,h=>by
   simp only[V.bS,Bool.and_eq_true] at h
   simp only[List.take_succ_cons,V.bS,Bool.and_eq_true]
   exact⟨h.1,qg n h.2⟩
theorem qh: ∀ {es:List V} (n:Nat),V.bS es=true→V.bS (es.drop n)=true
 | _,0,h=>by simpa using h
 | [],_+1,_=>by simp[V.bS]
 | x::xs,n+1,h=>by
   simp only[V.bS,Bool.and_eq_true] at h
   simpa using qh n h.2
theorem vY {es:List V} {off len:Nat} (h:V.bS es=true):V.bS (bb es off len)=true:=qg _ (qh _ h)
section
variable {Y:Ctx} {μf μ1:Mu} {n:Nat} {b6:Bool} {C:bO} {T:Nat→V}
theorem kZ {φ:Nat→Row} {O:Nat→Obj} {b:Nat} (h:Own ⟨Y.toTrEnv,after Y μ1 n b6,Y.tok⟩ (quiet μ1 φ O) b):Own Y μ1 b:=by
 rcases h with h| h| ⟨j,_,h1,h2,h3,h4⟩
 · exact absurd h vX
 · exact .inr h
 · exact .inl ⟨j,h1,h2,h3,h4⟩
theorem jK (h1:bQ Y μ1) {U:Nat→Prop} {A:Nat→Option Nat} {φ:Nat→Row} {O:Nat→Obj} {gs:List (Nat×Nat×Nat)} {c:V} {rs:List Nat} {val:Value} {r:Nat} {k:V→Act} {p:V×St}
   (ht:gH Y μf μ1 U A φ O) (hlo: ∀r,(μf.O r).gen≤(O r).gen) (Eh: ∀x ∈ gs,oQ μ1 φ O x.1 x.2.1 x.2.2) (he:XB Y μ1 n c rs val) (hU: ∀j ∈ rs,n≤j→ ¬U j) (ag: (cG b6 r gs c k).run C ⟨T,O⟩=some p):
   ∃A' φ' O' c',(k c').run C ⟨T,O'⟩=some p∧gH Y μf μ1 (fun j=>U j∨(b6=true∧j ∈ rs)) A' φ' O'∧eQ φ O φ' O'∧(∀r,A r≠none→A' r≠none)∧
     au ⟨Y.toTrEnv,after Y μ1 n b6,Y.tok⟩ (quiet μ1 φ' O') c' val∧(c.jU=true→c'.aV=true):=by
 have Dc:gH Y μf μ1 (fun j=>U j∨(b6=true∧j ∈ rs)) A φ O:=⟨ht.vh,fun r j e=> ⟨(ht.CO r j e).1,.inl (ht.CO r j e).2⟩,ht.inj⟩
 cases he with
 | pure hp hv=>
   refine⟨A,φ,O,c,?_,Dc,eQ.refl _ _,fun _ h=>h,eE (X:=Y) (μ:=μ1) (μ':=quiet μ1 φ O) rfl (fun b=>kZ) hp hv,fun hc=> ?_⟩
   · cases c<;>simp[V.aj] at hp<;>simpa [cG,V.aj,hp] using ag
   · cases c<;>simp_all[V.aj,V.jU]
 | @sl j g off len es val hr bX hg hl hv=>
   simp only[cG] at ag
   split at ag
   · rename_i r' g' hlk
     obtain⟨g1,g2⟩:=Eh _ (w7 hlk)
     refine⟨A,φ,O,_,ag,Dc,eQ.refl _ _,fun _ h=>h,?_,fun _=>rfl⟩
     simp only[au] at hv ⊢
     obtain⟨a,cap,rfl,q1,q2,q3⟩:=hv
     refine⟨a,cap,rfl,q1,g1,fun e=> ?_⟩
     obtain⟨e1,e2⟩:=g2 e
     simp only[quiet] at e1 e2 ⊢
     rw[e1,e2];exact q3 hg
   · exact absurd ag aC
 | @own j g off len es val hr bX jn hg hl hp hv=>
   simp only[cG] at ag
   have a0:0 < (μ1.O j).sz:=by simp only[au] at hv;obtain⟨_,_,_,_,_,hh⟩:=hv;exact(hh hg).1
   obtain⟨q1,q2,q3,q4⟩:=h1.row j es bX a0
   have sF: (bb es off len).length=len:=by simp[bb];omega
   have hwb: (bb es off len).all (aZ · (μ1.O j).sz)=true:=by
     simp only[List.all_eq_true] at q3 ⊢
     exact fun x hx=>q3 x (List.mem_of_mem_drop (List.mem_of_mem_take hx))
   have np: (bb es off len).all V.dX=true:=by
     simp only[List.all_eq_true] at hwb ⊢
     exact fun x hx=> (cE (hwb x hx)).1
   simp only[au] at hv
   obtain⟨a,cap,rfl,s1,s2,s3⟩:=hv
   obtain⟨-,a1,a2⟩:=s3 hg
   cases hth:b6 with
   | true=>
     subst hth
     rw[if_pos rfl] at ag
     simp only[Act.run] at ag
     have iY: (⟨(μ1.φ j).dQ,(μ1.φ j).base+off*(μ1.O j).sz,cap⟩:Row).cap=cap:=rfl
     have acr:GA Y μf μ1 r j ⟨(μ1.φ j).dQ,(μ1.φ j).base+off*(μ1.O j).sz,cap⟩ {gen:=(O r).gen+1,sz:=(μ1.O j).sz,arr:=true,fz:=false,es:=some (bb es off len)}:=by
       refine⟨⟨_,rfl,hp,q1,by simp only[sF];exact s1,hwb,?_⟩,⟨by simp[bX],jn⟩,fun hc=> ⟨?_,rfl⟩,.inl ?_,fun hs es' he=> ?_⟩
       · rcases q4 with q4| ⟨cc,TT,vs,p1,p2,p3,p4⟩
         · left;simp only;omega
         · right
           refine⟨cc,TT,(vs.drop off).take len,p1,?_,ak.take _ (ak.drop _ p3),(p4.drop off).take len⟩
           simp only
           rw[←a1,Nat.add_mul] at p2
           omega
       · simp only at hc;omega
       · have:=hlo r;simp only;omega
       · simp only at he;injection he with he;subst he
         exact vY (hs es bX)
     have hm:eQ φ O (eI φ r ⟨(μ1.φ j).dQ,(μ1.φ j).base+off*(μ1.O j).sz,cap⟩) (eI O r {gen:=(O r).gen+1,sz:=(μ1.O j).sz,arr:=true,fz:=false,es:=some (bb es off len)}):=
       eQ.eI (.inl (by simp))
     refine⟨_,_,_,_,ag,ht.take (U':=fun i=>U i∨(True∧i ∈ [j])) (hU j (by simp) hr) (fun i hi=> .inl hi) (by simp) acr |> fun t=>by simpa using t,hm,fun r' vf=> ?_,?_,fun _=>rfl⟩
     · by_cases e:r'=r
       · subst e;simp[aL]
       · rw[bu _ _ e];exact vf
     · simp only[au,quiet,aL]
       refine⟨a,cap,by rw[sF],by rw[sF];exact s1,Nat.le_refl _,fun _=> ⟨a0,by omega,a2.imp id fun e=> ?_⟩⟩
       rw[e];simp
   | false=>
     subst hth
     rw[if_neg (by simp)] at ag
     refine⟨A,φ,O,_,ag,Dc,eQ.refl _ _,fun _ h=>h,?_,fun _=>rfl⟩
     simp only[au]
     by_cases Cz:len=0
     · exact⟨hp,np,a,cap,[],by rw[sF],by omega,by simp[bb,Cz,ak],.inl (by simpa using sF.trans Cz)⟩
     · rcases q4 with q4| ⟨cc,TT,vs,p1,p2,p3,p4⟩
       · omega
       · refine⟨hp,np,a,cap,(vs.drop off).take len,by rw[sF],by omega,ca (X:=Y) (μ:=μ1) (μ':=quiet μ1 φ O) rfl (fun b=>kZ) hp (ak.take _ (ak.drop _ p3)),
           .inr ⟨_,_,a2.resolve_left (by omega),?_,(Array.getElem?_eq_some_iff.1 p1).1,(p4.drop off).take len⟩⟩
         rintro(h| h| ⟨j',k0,k1,k2,k3,k4⟩)
         · exact vX h
         · exact h1.wL j (by simp[bX]) (by omega) h
         · have YS:j'<n:=by simpa using k0
           exact h1.inj j' j (by omega) k1 (by simp[bX]) k3 (by omega) k4
theorem gH.lo {U:Nat→Prop} {A:Nat→Option Nat} {φ:Nat→Row} {O:Nat→Obj} (h:gH Y μf μ1 U A φ O) (r:Nat): (μf.O r).gen≤(O r).gen:=by
 cases e:A r with
 | none=>rw[(h.vh r e).1];exact Nat.le_refl _
 | some j=>
   rcases(h.CO r j e).1.gen with h| ⟨h,_⟩ <;>omega
def CP (Y:Ctx) (μf μ1:Mu) (C:bO) (T:Nat→V) (U:Nat→Prop) (A:Nat→Option Nat) (φ:Nat→Row) (O:Nat→Obj) {α:Type} (k:α→Act) (p:V×St) (G: (Nat→Row)→(Nat→Obj)→α→Prop):Prop:=
 ∃A' φ' O' c',(k c').run C ⟨T,O'⟩=some p∧gH Y μf μ1 U A' φ' O'∧eQ φ O φ' O'∧(∀r,A r≠none→A' r≠none)∧G φ' O' c'
theorem gH.more {U U':Nat→Prop} {A:Nat→Option Nat} {φ:Nat→Row} {O:Nat→Obj} (h:gH Y μf μ1 U A φ O) (hU: ∀j,U j→U' j):gH Y μf μ1 U' A φ O:=
 ⟨h.vh,fun r j e=> ⟨(h.CO r j e).1,hU _ (h.CO r j e).2⟩,h.inj⟩
theorem uK (h1:bQ Y μ1): ∀ {U:Nat→Prop} {A:Nat→Option Nat} {φ:Nat→Row} {O:Nat→Obj} {gs:List (Nat×Nat×Nat)} {cs:List V} {rs:List Nat} {vals:List Value} {r:Nat} {k:List V→Act} {p:V×St},
   gH Y μf μ1 U A φ O→(∀x ∈ gs,oQ μ1 φ O x.1 x.2.1 x.2.2)→At Y μ1 n cs rs vals→(∀j ∈ rs,n≤j→ ¬U j)→distinct rs=true→(dp b6 r gs cs k).run C ⟨T,O⟩=some p→
   CP Y μf μ1 C T (fun j=>U j∨(b6=true∧j ∈ rs)) A φ O k p fun φ' O' dC=>ak ⟨Y.toTrEnv,after Y μ1 n b6,Y.tok⟩ (quiet μ1 φ' O') dC vals∧(cs.all V.jU=true→dC.all V.aV=true):=by
 intro U A φ O gs cs rs vals r k p ht Eh he hU hd ag
 induction he generalizing U A φ O r k with
 | nil=>exact⟨A,φ,O,[],ag,ht.more fun j h=> .inl h,eQ.refl _ _,fun _ h=>h,by simp[ak],fun _=>rfl⟩
 | @cons c rs rs' val cs vals h hs ih=>
   obtain⟨d1,d2,d3⟩:=kB hd
   simp only[dp] at ag
   obtain⟨A1,φ1,O1,c1,k1,k2,k3,k4,k5,k6⟩:=jK h1 ht ht.lo Eh h (fun j hj=>hU j (by simp[hj])) ag
   obtain⟨A2,φ2,O2,cs2,m1,m2,m3,m4,m5,m6⟩:=ih k2 (fun x hx=> (Eh x hx).mono k3) (fun j hj hn hu=>by
     rcases hu with hu| ⟨_,hu⟩
     · exact hU j (by simp[hj]) hn hu
     · exact d3 j hj hu) d2 k1
   refine⟨A2,φ2,O2,c1::cs2,m1,m2.more fun j hj=> ?_,k3.trans m3,fun r' h=>m4 r' (k4 r' h),?_,?_⟩
   · rcases hj with(hj| ⟨e,hj⟩) | ⟨e,hj⟩
     · exact .inl hj
     · exact .inr ⟨e,by simp[hj]⟩
     · exact .inr ⟨e,by simp[hj]⟩
   · simp only[ak];exact⟨au.mono (EJ m3) k5,m5⟩
   · simp only[List.all_cons,Bool.and_eq_true]
     exact fun hc=> ⟨k6 hc.1,m6 hc.2⟩
theorem jL: ∀ {cs:List V},V.ae cs=true→cs.all V.jU=true→cs.all V.aV=true
 | [],_,_=>rfl
 | a::as,hp,hc=>by
   simp only[V.ae,Bool.and_eq_true] at hp
   simp only[List.all_cons,Bool.and_eq_true] at hc ⊢
   refine⟨?_,jL hp.2 hc.2⟩
   have h1:=hp.1
   have h2:=hc.1
   cases a<;>simp_all[V.aj,V.jU]
theorem rZ (h1:bQ Y μ1) {U:Nat→Prop} {A:Nat→Option Nat} {φ:Nat→Row} {O:Nat→Obj} {gs:List (Nat×Nat×Nat)} {c:V} {rs:List Nat} {val:Value} {r:Nat} {k:V→Act} {p:V×St}
   (ht:gH Y μf μ1 U A φ O) (Eh: ∀x ∈ gs,oQ μ1 φ O x.1 x.2.1 x.2.2) (he:JR Y μ1 n c rs val) (hU: ∀j ∈ rs,n≤j→ ¬U j) (hd:distinct rs=true) (ag: (fL b6 r gs c k).run C ⟨T,O⟩=some p):
   CP Y μf μ1 C T (fun j=>U j∨(b6=true∧j ∈ rs)) A φ O k p fun φ' O' c'=>au ⟨Y.toTrEnv,after Y μ1 n b6,Y.tok⟩ (quiet μ1 φ' O') c' val:=by
 unfold fL at ag
 split at ag
 · rename_i hp
   refine⟨A,φ,O,c,ag,ht.more fun j h=> .inl h,eQ.refl _ _,fun _ h=>h,?_⟩
   cases he with
   | cell h=>
     cases h with
     | pure Fl hv=>exact eE (X:=Y) (μ:=μ1) (μ':=quiet μ1 φ O) rfl (fun b=>kZ) hp hv
     | sl=>simp[V.aj] at hp
     | own=>simp[V.aj] at hp
   | @agg cs _ vals hc h=>
     have Fl:V.ae cs=true:=by simpa [V.aj] using hp
     obtain⟨hv,_⟩:=h.bq Fl
     simp only[au]
     exact⟨jL Fl hc,_,rfl,ca (X:=Y) (μ:=μ1) (μ':=quiet μ1 φ O) rfl (fun b=>kZ) Fl hv⟩
 · cases he with
   | cell h=>
     cases h with
     | pure hp hv=>rename_i Bh;exact absurd hp Bh
     | sl hr bX hg hl hv=>
       obtain⟨A1,φ1,O1,c1,k1,k2,k3,k4,k5,k6⟩:=jK h1 ht ht.lo Eh (.sl hr bX hg hl hv) hU ag
       exact⟨A1,φ1,O1,c1,k1,k2,k3,k4,k5⟩
     | own hr bX jn hg hl hp hv=>
       obtain⟨A1,φ1,O1,c1,k1,k2,k3,k4,k5,k6⟩:=jK h1 ht ht.lo Eh (.own hr bX jn hg hl hp hv) hU ag
       exact⟨A1,φ1,O1,c1,k1,k2,k3,k4,k5⟩
   | agg hc h=>
     obtain⟨A1,φ1,O1,c1,k1,k2,k3,k4,k5,k6⟩:=uK h1 ht Eh h hU hd ag
     refine⟨A1,φ1,O1,_,k1,k2,k3,k4,?_⟩
     simp only[au]
     exact⟨k6 hc,_,rfl,k5⟩
theorem zG (h1:bQ Y μ1): ∀ {U:Nat→Prop} {A:Nat→Option Nat} {φ:Nat→Row} {O:Nat→Obj} {gs:List (Nat×Nat×Nat)} {cs:List V} {rs:List Nat} {vals:List Value} {r:Nat} {k:List V→Act} {p:V×St},
   gH Y μf μ1 U A φ O→(∀x ∈ gs,oQ μ1 φ O x.1 x.2.1 x.2.2)→uI Y μ1 n cs rs vals→(∀j ∈ rs,n≤j→ ¬U j)→distinct rs=true→(eW b6 r gs cs k).run C ⟨T,O⟩=some p→
   CP Y μf μ1 C T (fun j=>U j∨(b6=true∧j ∈ rs)) A φ O k p fun φ' O' dC=>ak ⟨Y.toTrEnv,after Y μ1 n b6,Y.tok⟩ (quiet μ1 φ' O') dC vals:=by
 intro U A φ O gs cs rs vals r k p ht Eh he hU hd ag
 induction he generalizing U A φ O r k with
 | nil=>exact⟨A,φ,O,[],ag,ht.more fun j h=> .inl h,eQ.refl _ _,fun _ h=>h,by simp[ak]⟩
 | @cons c rs rs' val cs vals h hs ih=>
   obtain⟨d1,d2,d3⟩:=kB hd
   simp only[eW] at ag
   obtain⟨A1,φ1,O1,c1,k1,k2,k3,k4,k5⟩:=rZ h1 ht Eh h (fun j hj=>hU j (by simp[hj])) d1 ag
   obtain⟨A2,φ2,O2,cs2,m1,m2,m3,m4,m5⟩:=ih k2 (fun x hx=> (Eh x hx).mono k3) (fun j hj hn hu=>by
     rcases hu with hu| ⟨_,hu⟩
     · exact hU j (by simp[hj]) hn hu
     · exact d3 j hj hu) d2 k1
   refine⟨A2,φ2,O2,c1::cs2,m1,m2.more fun j hj=> ?_,k3.trans m3,fun r' h=>m4 r' (k4 r' h),?_⟩
   · rcases hj with(hj| ⟨e,hj⟩) | ⟨e,hj⟩
     · exact .inl hj
     · exact .inr ⟨e,by simp[hj]⟩
     · exact .inr ⟨e,by simp[hj]⟩
   · simp only[ak];exact⟨au.mono (EJ m3) k5,m5⟩
theorem uI.bq {cs:List V} {rs:List Nat} {vals:List Value} (h:uI Y μ1 n cs rs vals) (hp:V.ae cs=true):ak Y μ1 cs vals∧rs=[]:=by
 induction h with
 | nil=>simp[ak]
 | cons h hs ih=>
   simp only[V.ae,Bool.and_eq_true] at hp
   obtain⟨i1,i2⟩:=ih hp.2
   cases h with
   | cell h=>
     cases h with
     | pure Fl hv=>simp only[ak];exact⟨⟨hv,i1⟩,by simpa using i2⟩
     | sl=>simp[V.aj] at hp
     | own=>simp[V.aj] at hp
   | @agg cs _ vals hc h=>
     have Fl:V.ae cs=true:=by simpa [V.aj] using hp.1
     obtain⟨hv,e⟩:=h.bq Fl
     subst e
     simp only[ak,au]
     exact⟨⟨⟨jL Fl hc,_,rfl,hv⟩,i1⟩,by simpa using i2⟩
end
end Go.AM
namespace Go.AM
open Go Go.RowKit
mutual
theorem lR: ∀ {x:V},V.isScalar x=true→V.aj x=true
 | .bool _,_| .int ..,_| .float _,_| .str _,_| .nilp,_| .nilfn,_| .nili,_| .nils,_=>rfl
 | .any,hp| .own ..,hp| .msl ..,hp| .mptr ..,hp| .sl ..,hp| .ptr ..,hp| .lit ..,hp| .eptr ..,hp| .litk ..,hp| .epk ..,hp| .mp ..,hp| .it ..,hp| .mlit ..,hp| .fn ..,hp| .bfn ..,hp| .iface ..,hp=>by simp[V.isScalar] at hp
 | .agg cs,hp=>by simpa [V.aj] using gI (by simpa [V.isScalar] using hp)
 | .tuple cs,hp=>by simpa [V.aj] using gI (by simpa [V.isScalar] using hp)
theorem gI: ∀ {xs:List V},V.bS xs=true→V.ae xs=true
 | [],_=>rfl
 | x::xs,hp=>by
   simp only[V.bS,Bool.and_eq_true] at hp
   simp only[V.ae,Bool.and_eq_true]
   exact⟨lR hp.1,gI hp.2⟩
end
section
variable {Y:Ctx} {μf μ1:Mu} {n:Nat} {b6:Bool} {C:bO} {T:Nat→V}
def PZ (Y:Ctx) (μ:Mu) (n:Nat) (v:V) (rs:List Nat) (val:Value):Prop:=
 JR Y μ n v rs val∨ ∃vs us,v= .tuple vs∧val= .tuple us∧uI Y μ n vs rs us.toList
theorem dP.acs (h1:bQ Y μ1) {T':Nat→V} {v0 v:V} {rs:List Nat} {val:Value} (hv:au Y μ1 v0 val) (h:dP n ⟨T',μ1.O⟩ v0 v rs):PZ Y μ1 n v rs val:=by
 cases h with
 | one h=>exact .inl (rV h1 hv h)
 | many h=>
   simp only[au] at hv
   obtain⟨us,rfl,hv⟩:=hv
   exact .inr ⟨_,us,rfl,rfl,qe h1 hv h⟩
theorem PZ.pure {v:V} {rs:List Nat} {val:Value} (h:PZ Y μ1 n v rs val) (hp:V.aj v=true):au Y μ1 v val:=by
 rcases h with h| ⟨vs,us,rfl,rfl,h⟩
 · have hs:uI Y μ1 n [v] (rs++[]) [val]:= .cons h .nil
   have:=(hs.bq (by simp[V.ae,hp])).1
   simp only[ak] at this
   exact this.1
 · simp only[au]
   exact⟨us,rfl,(h.bq (by simpa [V.aj] using hp)).1⟩
theorem xB (h1:bQ Y μ1) {U:Nat→Prop} {A:Nat→Option Nat} {φ:Nat→Row} {O:Nat→Obj} {gs:List (Nat×Nat×Nat)} {c v:V} {rs:List Nat} {val:Value} {r:Nat} {σ':St}
   (ht:gH Y μf μ1 U A φ O) (Eh: ∀x ∈ gs,oQ μ1 φ O x.1 x.2.1 x.2.2) (he:PZ Y μ1 n c rs val) (hU: ∀j ∈ rs,n≤j→ ¬U j) (hd:distinct rs=true) (ag: (df b6 r gs c .done).run C ⟨T,O⟩=some (v,σ')):
   σ'.T=T∧((V.aj c=true∧v=c∧σ'.O=O∧au Y μ1 c val)∨ ∃A' φ',gH Y μf μ1 (fun j=>U j∨(b6=true∧j ∈ rs)) A' φ' σ'.O∧eQ φ O φ' σ'.O∧(∀r,A r≠none→A' r≠none)∧au ⟨Y.toTrEnv,after Y μ1 n b6,Y.tok⟩ (quiet μ1 φ' σ'.O) v val):=by
 unfold df at ag
 split at ag
 · rename_i hp
   obtain⟨rfl,rfl⟩:=bo ag
   exact⟨rfl,.inl ⟨hp,rfl,rfl,he.pure hp⟩⟩
 · rename_i Bh
   split at ag
   · rename_i vs
     rcases he with he| ⟨vs',us,e,rfl,he⟩
     · cases he with
       | cell h=>
         cases h with
         | pure hp hv=>exact absurd hp Bh
     · injection e with e;subst e
       obtain⟨A1,φ1,O1,c1,k1,k2,k3,k4,k5⟩:=zG h1 ht Eh he hU hd ag
       obtain⟨rfl,rfl⟩:=bo k1
       refine⟨rfl,.inr ⟨A1,φ1,k2,k3,k4,?_⟩⟩
       simp only[au]
       exact⟨us,rfl,k5⟩
   · rename_i hnt
     rcases he with he| ⟨vs',us,e,rfl,he⟩
     · obtain⟨A1,φ1,O1,c1,k1,k2,k3,k4,k5⟩:=rZ h1 ht Eh he hU hd ag
       obtain⟨rfl,rfl⟩:=bo k1
       exact⟨rfl,.inr ⟨A1,φ1,k2,k3,k4,k5⟩⟩
     · exact absurd e (hnt vs')
end
section
variable {X:Ctx} {μ μ1:Mu} {r0:Nat}
theorem vZ {as:List V} {vals:List Value} {rs:List Nat} {ws:List fk} (ho:bQ X μ) (hp:mg X μ r0 0 as vals rs ws)
   (le:Le ⟨μ.w,ga μ.φ ws,(enter as).O⟩ μ1) (h1:bQ ⟨X.toTrEnv,eB X μ rs ws,X.tok⟩ μ1) {Of:Nat→Obj} (hf:bQ X ⟨μ.w,μ.φ,Of⟩) (NL: ∀w ∈ ws,Of w.r=μ.O w.r)
   {U:Nat→Prop} {A:Nat→Option Nat} {φ:Nat→Row} {O:Nat→Obj} (ht:gH ⟨X.toTrEnv,eB X μ rs ws,X.tok⟩ ⟨μ.w,μ.φ,Of⟩ μ1 U A φ O) (hm:eQ μ.φ Of φ O) (hA: ∀w ∈ ws,A w.r≠none)
   (hT: ∀j,U j→((∀es,(μ1.O j).es=some es→V.bS es=true))∨ ∀b,Own X ⟨μ1.w,φ,O⟩ b→Own ⟨X.toTrEnv,eB X μ rs ws,X.tok⟩ μ1 b):
   Le ⟨μ.w,μ.φ,Of⟩ ⟨μ1.w,φ,O⟩∧bQ X ⟨μ1.w,φ,O⟩:=by
 have R1: ∀b,(⟨μ.w,ga μ.φ ws,(enter as).O⟩:Mu).own b→ ∃w ∈ ws,(Of w.r).es.isSome=true∧(Of w.r).fz=false∧(μ.φ w.r).cap≠0∧(μ.φ w.r).dQ=b:=fun b hb=>by
   obtain⟨i,r,k1,k2,k3,k4,k5⟩:=Bs hp hb
   have e:=NL _ k1
   simp only at e
   exact⟨_,k1,by rw[e];exact k2,by rw[e];exact k3,k4,k5⟩
 have acu: ∀j,(μ1.O j).es.isSome=true∧(μ1.O j).fz=false→(μ1.φ j).cap≠0→μ1.own (μ1.φ j).dQ:=fun j hl hc=> ⟨j,hl.1,hl.2,hc,rfl⟩
 have kept: ∀r,A r=none→(Of r).es.isSome=true→(μ.φ r).cap≠0→(μ.φ r).dQ<μ.w.heap.size∧μ1.w.heap[(μ.φ r).dQ]? =μ.w.heap[(μ.φ r).dQ]? ∧ ¬μ1.own (μ.φ r).dQ:=fun r hr hs hc=>by
   obtain⟨es,he⟩:=Option.isSome_iff_exists.1 hs
   have bY: (μ.φ r).dQ<μ.w.heap.size:=gF.dQ (μ:=⟨μ.w,μ.φ,Of⟩) (hf.ok r es he) hc
   have eP: ¬ (⟨μ.w,ga μ.φ ws,(enter as).O⟩:Mu).own (μ.φ r).dQ:=fun hb=>by
     obtain⟨w,k1,k2,k3,k4,k5⟩:=R1 _ hb
     have cu:w.r≠r:=fun e=>hA w k1 (e ▸ hr)
     exact hf.inj w.r r cu k2 hs k4 hc k5
   obtain⟨l1,l2⟩:=le.dq _ bY eP
   exact⟨bY,l1,l2⟩
 have af9: ∀b,(⟨μ1.w,φ,O⟩:Mu).own b→(⟨μ.w,μ.φ,Of⟩:Mu).own b∨μ1.own b:=fun b hb=>by
   obtain⟨r,k1,k2,k3,k4⟩:=hb
   simp only at k1 k2 k3 k4
   cases e:A r with
   | none=>
     obtain⟨n1,n2⟩:=ht.vh r e
     rw[n1] at k1 k2
     rw[n2] at k3 k4
     exact .inl ⟨r,k1,k2,k3,k4⟩
   | some j=>
     obtain⟨t,_⟩:=ht.CO r j e
     obtain⟨b1,b2⟩:=t.dQ k3
     exact .inr ⟨j,t.live.1,t.live.2,b1,by rw[←b2];exact k4⟩
 have LE:Le ⟨μ.w,μ.φ,Of⟩ ⟨μ1.w,φ,O⟩:=by
   refine⟨le.size,fun b hb eP=> ?_,fun r=> (hm r).1,fun r e=> (hm r).2 e,le.os,le.output,le.tape,le.frozen⟩
   have aga: ¬ (⟨μ.w,ga μ.φ ws,(enter as).O⟩:Mu).own b:=fun wM=>by
     obtain⟨w,k1,k2,k3,k4,k5⟩:=R1 _ wM
     exact eP ⟨w.r,k2,k3,k4,k5⟩
   obtain⟨l1,l2⟩:=le.dq b hb aga
   exact⟨l1,fun h3=> (af9 b h3).elim eP l2⟩
 refine⟨LE,fun r es bX=> ?_,fun r1 r2 cu e1 e2 e3 e4 e5=> ?_,fun r k1 k2 hb=> ?_,fun b hb=>Nat.lt_of_lt_of_le (ho.blt b hb) le.size⟩
 · simp only at bX
   cases e:A r with
   | none=>
     obtain⟨n1,n2⟩:=ht.vh r e
     simp only at n1 n2
     rw[n1] at bX
     exact gF.dq (r:=r) (r':=r) LE (hf.ok r es bX) (by simp[n1]) (by simp[n2]) (fun hc=> (kept r e (by simp[bX]) hc).2.1)
   | some j=>
     obtain⟨t,hu⟩:=ht.CO r j e
     obtain⟨es',s0,s1,s2,s3,s4,s5⟩:=t.es
     rw[bX] at s0;injection s0 with s0;subst s0
     left
     unfold mq
     simp only
     refine⟨s2,s3,s4,s5.imp id ?_⟩
     rintro⟨c,TT,vs,p1,p2,p3,p4⟩
     refine⟨c,TT,vs,p1,p2,?_,p4⟩
     rcases hT j hu with hs| hs
     · exact gN (X:=⟨X.toTrEnv,eB X μ rs ws,X.tok⟩) (μ:=μ1) (X':=X) (μ':=⟨μ1.w,φ,O⟩) rfl (t.sc hs _ bX) p3
     · exact ca (X:=⟨X.toTrEnv,eB X μ rs ws,X.tok⟩) (μ:=μ1) (B:=X.RI) (μ':=⟨μ1.w,φ,O⟩) rfl hs s1 p3
 · simp only at e1 e2 e3 e4 e5
   cases a1:A r1 with
   | none=>
     obtain⟨n1,n2⟩:=ht.vh r1 a1
     simp only at n1 n2
     rw[n1] at e1;rw[n2] at e3 e5
     cases a2:A r2 with
     | none=>
       obtain⟨m1,m2⟩:=ht.vh r2 a2
       simp only at m1 m2
       rw[m1] at e2;rw[m2] at e4 e5
       exact hf.inj r1 r2 cu e1 e2 e3 e4 e5
     | some j=>
       obtain⟨t,_⟩:=ht.CO r2 j a2
       obtain⟨b1,b2⟩:=t.dQ e4
       exact(kept r1 a1 e1 e3).2.2 (by rw[e5,b2];exact acu j t.live b1)
   | some j=>
     obtain⟨t,_⟩:=ht.CO r1 j a1
     obtain⟨b1,b2⟩:=t.dQ e3
     cases a2:A r2 with
     | none=>
       obtain⟨m1,m2⟩:=ht.vh r2 a2
       simp only at m1 m2
       rw[m1] at e2;rw[m2] at e4 e5
       exact(kept r2 a2 e2 e4).2.2 (by rw[←e5,b2];exact acu j t.live b1)
     | some j2=>
       obtain⟨t2,_⟩:=ht.CO r2 j2 a2
       obtain⟨c1,c2⟩:=t2.dQ e4
       refine h1.inj j j2 (fun e=>cu (ht.inj r1 r2 j a1 (e ▸ a2))) t.live.1 t2.live.1 b1 c1 ?_
       rw[←b2,←c2];exact e5
 · simp only at k1 k2 hb
   cases a1:A r with
   | none=>
     obtain⟨n1,n2⟩:=ht.vh r a1
     simp only at n1 n2
     rw[n1] at k1;rw[n2] at k2 hb
     exact hf.wL r k1 k2 hb
   | some j=>
     obtain⟨t,_⟩:=ht.CO r j a1
     obtain⟨b1,b2⟩:=t.dQ k2
     exact h1.wL j t.live.1 b1 (.inl (b2 ▸ hb))
end
end Go.AM
namespace Go.AM
open Go Go.RowKit
section
variable {X:Ctx} {μ μ1:Mu} {r0:Nat} {C:bO} {T:Nat→V}
theorem Bt {as:List V} {vals:List Value} {rs:List Nat} {ws:List fk} (ho:bQ X μ) (hp:mg X μ r0 0 as vals rs ws) (B9:apart rs (ws.map (·.r))=true) (hd:distinct (ws.map (·.r))=true)
   (le:Le ⟨μ.w,ga μ.φ ws,(enter as).O⟩ μ1) (h1:bQ ⟨X.toTrEnv,eB X μ rs ws,X.tok⟩ μ1) {res:iE} {refs:List Nat} {v0:V} {val:Value} {T':Nat→V} (hv:au ⟨X.toTrEnv,eB X μ rs ws,X.tok⟩ μ1 v0 val)
   (agb:dP as.length ⟨T',μ1.O⟩ v0 res.val refs) (hdr:distinct refs=true) (Mv:cA μ1.O 0 as=some res.outs) {b6:Bool} {r:Nat} {v:V} {σ':St}
   (ag: (if res.val.isScalar &&res.outs.all (fun o=>V.bS o.2) then dB ws res.outs fun gs=>df b6 r gs res.val .done else dg rs (dB ws res.outs fun gs=>df b6 r gs res.val .done)).run C ⟨T,μ.O⟩=some (v,σ')):
   σ'.T=T∧ ∃φ',au X ⟨μ1.w,φ',σ'.O⟩ v val∧Le μ ⟨μ1.w,φ',σ'.O⟩∧bQ X ⟨μ1.w,φ',σ'.O⟩:=by
 have hR:=agb.acs h1 hv
 have hi:=hp.inc
 have iY: ∀w ∈ ws,w.fresh=none→(μ1.O w.i).gen=0→μ1.φ w.i=μ.φ w.r:=fun w hw FV hg=>by
   have PN: ((enter as).O w.i).gen=0:=by
     rcases kY hp w.i with h| ⟨_,_,_,_,_,_,h,_⟩ | ⟨_,_,_,h,_⟩
     · rw[h];rfl
     · exact h
     · exact h
   obtain⟨e1,_⟩:=le.row w.i (by rw[hg];exact PN.symm)
   rw[e1]
   have:=jJ (φ:=μ.φ) hi w hw
   rw[FV] at this
   exact this
 have start: ∀ (Of:Nat→Obj) (S:Nat→Prop),gH ⟨X.toTrEnv,eB X μ rs ws,X.tok⟩ ⟨μ.w,μ.φ,Of⟩ μ1 (fun j=>j< 0∧S j) (fun _=>none) μ.φ Of:=fun Of S=>
   ⟨fun _ _=> ⟨rfl,rfl⟩,fun _ _ e=>by simp at e,fun _ _ _ e=>by simp at e⟩
 split at ag
 · rename_i hsc
   simp only[Bool.and_eq_true] at hsc
   obtain⟨ub,Ck⟩:=hsc
   have hS: ∀w ∈ ws,∀es,(μ1.O w.i).es=some es→V.bS es=true:=fun w hw es he=>by
     obtain⟨g,es',k1,k2⟩:=Mt hp Mv w hw
     rw[he] at k1;injection k1 with k1;subst k1
     exact(List.all_eq_true.1 Ck) _ k2
   obtain⟨A,φ,O,gs,k1,k2,k3,k4,k5,k6⟩:=rY (μf:=⟨μ.w,μ.φ,μ.O⟩) h1 iY rfl (fun _ _=>rfl) (S:=fun j=> ∀es,(μ1.O j).es=some es→V.bS es=true) hS hp Mv (start μ.O _) (fun w hw=>hw) (fun _ _=>rfl) hd ag
   have gO:=lR ub
   unfold df at k1
   rw[if_pos gO] at k1
   obtain⟨rfl,rfl⟩:=bo k1
   obtain⟨b1,b2⟩:=vZ ho hp le h1 (Of:=μ.O) ho (fun _ _=>rfl) k2 k3 k4 (fun j hj=> .inl hj.2)
   exact⟨rfl,φ,oP (X:=⟨X.toTrEnv,eB X μ rs ws,X.tok⟩) (μ:=μ1) (X':=X) (μ':=⟨μ1.w,φ,O⟩) rfl ub (hR.pure gO),b1,b2⟩
 · obtain⟨Of,f1,f2,f3,f4,f5⟩:=kz (X:=X) (w:=μ.w) (φ:=μ.φ) rs ho ag
   have NL: ∀w ∈ ws,Of w.r=μ.O w.r:=fun w hw=>f4 _ fun hr=>by
     have:=List.all_eq_true.1 B9 w.r (List.mem_map.2 ⟨w,hw,rfl⟩)
     simp[hr] at this
   obtain⟨A,φ,O,gs,k1,k2,k3,k4,k5,k6⟩:=rY (μf:=⟨μ.w,μ.φ,Of⟩) h1 iY rfl NL (S:=fun _=>True) (fun _ _=>trivial) hp Mv (start Of _) (fun w hw=>hw) (fun _ _=>rfl) hd f1
   obtain⟨hT,jY⟩:=xB h1 k2 k6 hR (fun j _ hn hu=>by have:=hu.1;omega) hdr k1
   have acv: ∀ {U:Nat→Prop} {A:Nat→Option Nat} {φ:Nat→Row} {O:Nat→Obj},gH ⟨X.toTrEnv,eB X μ rs ws,X.tok⟩ ⟨μ.w,μ.φ,Of⟩ μ1 U A φ O→(∀w ∈ ws,A w.r≠none)→(∀j,U j→b6=true∨j<as.length)→
       ∀b,Own X ⟨μ1.w,φ,O⟩ b→after ⟨X.toTrEnv,eB X μ rs ws,X.tok⟩ μ1 as.length b6 b:=by
     intro U A φ O ht hA hU b hb
     rcases hb with⟨r',q1,q2,q3,q4⟩ | hb
     · simp only at q1 q2 q3 q4
       cases e:A r' with
       | none=>
         obtain⟨n1,n2⟩:=ht.vh r' e
         simp only at n1 n2
         rw[n1] at q1 q2;rw[n2] at q3 q4
         have YP:r' ∉ rs:=fun h=>by rw[f5 r' h] at q2;simp at q2
         have sY:r' ∉ ws.map (·.r):=fun h=>by
          obtain⟨w,hw,e'⟩:=List.mem_map.1 h
          exact hA w hw (by rw[e'];exact e)
         rw[f4 r' YP] at q1 q2
         exact .inl (.inr ⟨r',YP,sY,q1,q2,q3,q4⟩)
       | some j=>
         obtain⟨t,hu⟩:=ht.CO r' j e
         obtain⟨b1,b2⟩:=t.dQ q3
         exact .inr ⟨j,hU j hu,t.live.1,t.live.2,b1,by rw[←b2];exact q4⟩
     · exact .inl (.inl hb)
   refine⟨hT,?_⟩
   rcases jY with⟨gO,rfl,hO,hvv⟩ | ⟨A',φ',m1,m2,m3,m4⟩
   · have gS:=acv k2 k4 (fun j hj=> .inr (by have:=hj.1;omega))
     have H4: ∀b,Own X ⟨μ1.w,φ,O⟩ b→Own ⟨X.toTrEnv,eB X μ rs ws,X.tok⟩ μ1 b:=fun b hb=>kZ (φ:=φ) (O:=O) (.inr (gS b hb))
     obtain⟨b1,b2⟩:=vZ ho hp le h1 (Of:=Of) f3 NL k2 k3 k4 (fun j hj=> .inr H4)
     rw[hO]
     exact⟨φ,eE (X:=⟨X.toTrEnv,eB X μ rs ws,X.tok⟩) (μ:=μ1) (B:=X.RI) (μ':=⟨μ1.w,φ,O⟩) rfl H4 gO hvv,f2.trans b1,b2⟩
   · have hA': ∀w ∈ ws,A' w.r≠none:=fun w hw=>m3 _ (k4 w hw)
     have gS:=acv m1 hA' (fun j hj=>hj.elim (fun h=> .inr (by have:=h.1;omega)) fun h=> .inl h.1)
     have H4: ∀b,Own X ⟨μ1.w,φ',σ'.O⟩ b→Own ⟨X.toTrEnv,eB X μ rs ws,X.tok⟩ μ1 b:=fun b hb=>kZ (φ:=φ') (O:=σ'.O) (.inr (gS b hb))
     obtain⟨b1,b2⟩:=vZ ho hp le h1 (Of:=Of) f3 NL m1 (k3.trans m2) hA' (fun j hj=> .inr H4)
     refine⟨φ',weaken (X:=⟨X.toTrEnv,after ⟨X.toTrEnv,eB X μ rs ws,X.tok⟩ μ1 as.length b6,X.tok⟩) (μ:=quiet μ1 φ' σ'.O) (X':=X) (μ':=⟨μ1.w,φ',σ'.O⟩) rfl rfl rfl rfl (fun _=> ⟨rfl,rfl⟩) (fun b hb=> .inr (gS b hb)) m4,f2.trans b1,b2⟩
end
end Go.AM
namespace Go.AM
open Go Go.RowKit
section
variable {X:Ctx} {E:Env} {C:bO} {o:Oper} {a:Go.Act} {T:Nat→V} {μ:Mu} {v:V} {σ':St}
theorem R2 {C:bO} {act:Act}: ∀ {σ σ':St} {v:V},act.run C σ=some (v,σ')→σ'.T=σ.T:=by
 induction act with
 | done u=>intro σ σ' v h;obtain⟨_,rfl⟩:=bo h;rfl
 | fail=>intro σ σ' v h;exact absurd h aC
 | oR t k ih=>intro σ σ' v h;exact ih _ h
 | cr r k ih=>intro σ σ' v h;exact ih _ h
 | bW r o k ih=>intro σ σ' v h;have:=ih h;simpa using this
 | call f as k ih=>
   intro σ σ' v h
   simp only[Act.run] at h
   split at h
   · exact ih _ h
   · simp at h
theorem wa {h:Rel X T a μ} (O:Nat→Obj): ∀ {xs:List Operand} {ys:List bg},rp X xs=some ys→ak X μ (ys.map (bM ⟨T,O⟩)) (xs.map a.eval)
 | [],ys,e=>by simp[rp] at e;subst e;simp[ak]
 | x::xs,ys,e=>by
   simp only[rp] at e
   split at e
   · rename_i y ys' h1 h2
     injection e with e;subst e
     simp only[List.map_cons,ak]
     exact⟨aX h h1 O,wa (h:=h) O h2⟩
   · simp at e
theorem Mw (  hC: ∀f F as res,X.kh F=some f→C f as=some res→dA X.toTrEnv F as res) {h:Hints} {dst:Nat} {c:Call} {rq:vb} (hr:Rel X T a μ) (ho:o.op= .call c) (aY:yY X h dst c=some rq) (Ew:rq.jG=true)
   (ag: (aF E rq).run C ⟨T,μ.O⟩=some (v,σ')):σ'.T=T∧ ∀ (next:Go.Act→World→Prop) (Q:Go.Exit→Go.Act→World→Prop),
   (∀val w' φ',au X ⟨w',φ',σ'.O⟩ v val→Le μ ⟨w',φ',σ'.O⟩→bQ X ⟨w',φ',σ'.O⟩→next (a.put o.dst val) w')→o.wp X.P a μ.w next Q:=by
 unfold yY at aY
 split at aY
 · rename_i f acw
   split at aY
   · rename_i f' as' hf has
     injection aY with aY;subst aY
     simp only[aF,bP] at ag
     split at ag
     · rename_i f0 caps So
       rw[oa] at ag
       have FV:=aX hr hf μ.O
       rw[So] at FV
       simp only[au] at FV
       obtain⟨F,cv,hF,yQ,H3⟩:=FV
       have jw:=(wa (h:=hr) μ.O has).append H3
       simp only[pq] at ag
       obtain⟨as,rs,ws,h1,hp⟩:=fp hr.bB jw ag
       split at h1
       · rename_i uB
         simp only[Bool.and_eq_true] at uB
         obtain⟨B9,hd⟩:=uB
         simp only[Act.run] at h1
         split at h1
         · rename_i res jY
           have hS:=hC f0 F as res yQ jY
           obtain⟨e1,e2,e3⟩:=wZ hr.bB hp B9 hd
           have hU:=hS (eB X μ rs ws) X.tok μ.w (ga μ.φ ws) _ e1 e2 e3
           have kG: (execOp a.eval o).run X.P μ.w=(callFunc F (List.map a.eval c.args.toList++cv.toList).toArray).run X.P μ.w:=by
            have hea: (c.args.map a.eval)++cv=(List.map a.eval c.args.toList++cv.toList).toArray:=by
             apply Array.toList_inj.1;simp
            simp only[execOp,ho,resolve,acw,hF,Deferred.ofValue,Sem.run_bind]
            rw[←hea]
            simp[invoke,Sem.run]
           have key: ∀val w',(∃φ' T' O' v0 refs,Le ⟨μ.w,ga μ.φ ws,(enter as).O⟩ ⟨w',φ',O'⟩∧bQ ⟨X.toTrEnv,eB X μ rs ws,X.tok⟩ ⟨w',φ',O'⟩∧
             au ⟨X.toTrEnv,eB X μ rs ws,X.tok⟩ ⟨w',φ',O'⟩ v0 val∧dP as.length ⟨T',O'⟩ v0 res.val refs∧distinct refs=true∧cA O' 0 as=some res.outs)→
             σ'.T=T∧ ∃φ',au X ⟨w',φ',σ'.O⟩ v val∧Le μ ⟨w',φ',σ'.O⟩∧bQ X ⟨w',φ',σ'.O⟩:=by
            rintro val w' ⟨φ',T',O',v0,refs,k1,k2,k3,k4,k5,k6⟩
            exact Bt hr.bB hp B9 hd k1 k2 k3 k4 k5 k6 h1
           have hTT:σ'.T=T:=R2 h1
           refine⟨hTT,fun next Q hn=> ?_⟩
           unfold Oper.wp
           rw[kG]
           exact hU.upon fun val w' hv=>by
            obtain⟨_,φ',q1,q2,q3⟩:=key val w' hv
            exact hn val w' φ' q1 q2 q3
         · simp at h1
       · exact absurd h1 aC
     · rename_i f0 caps So
       rw[oa] at ag
       have FV:=aX hr hf μ.O
       rw[So] at FV
       simp only[au] at FV
       obtain⟨F,cv,hF,yQ,H3⟩:=FV
       have jw:=H3.append (wa (h:=hr) μ.O has)
       simp only[pq] at ag
       obtain⟨as,rs,ws,h1,hp⟩:=fp hr.bB jw ag
       split at h1
       · rename_i uB
         simp only[Bool.and_eq_true] at uB
         obtain⟨B9,hd⟩:=uB
         simp only[Act.run] at h1
         split at h1
         · rename_i res jY
           have hS:=hC f0 F as res yQ jY
           obtain⟨e1,e2,e3⟩:=wZ hr.bB hp B9 hd
           have hU:=hS (eB X μ rs ws) X.tok μ.w (ga μ.φ ws) _ e1 e2 e3
           have kG: (execOp a.eval o).run X.P μ.w=(callFunc F (cv.toList++List.map a.eval c.args.toList).toArray).run X.P μ.w:=by
            have hea:cv++(c.args.map a.eval)=(cv.toList++List.map a.eval c.args.toList).toArray:=by
             apply Array.toList_inj.1;simp
            simp only[execOp,ho,resolve,acw,hF,Deferred.ofValue,Sem.run_bind]
            rw[←hea]
            simp[invoke,Sem.run]
           have key: ∀val w',(∃φ' T' O' v0 refs,Le ⟨μ.w,ga μ.φ ws,(enter as).O⟩ ⟨w',φ',O'⟩∧bQ ⟨X.toTrEnv,eB X μ rs ws,X.tok⟩ ⟨w',φ',O'⟩∧
             au ⟨X.toTrEnv,eB X μ rs ws,X.tok⟩ ⟨w',φ',O'⟩ v0 val∧dP as.length ⟨T',O'⟩ v0 res.val refs∧distinct refs=true∧cA O' 0 as=some res.outs)→
             σ'.T=T∧ ∃φ',au X ⟨w',φ',σ'.O⟩ v val∧Le μ ⟨w',φ',σ'.O⟩∧bQ X ⟨w',φ',σ'.O⟩:=by
            rintro val w' ⟨φ',T',O',v0,refs,k1,k2,k3,k4,k5,k6⟩
            exact Bt hr.bB hp B9 hd k1 k2 k3 k4 k5 k6 h1
           have hTT:σ'.T=T:=R2 h1
           refine⟨hTT,fun next Q hn=> ?_⟩
           unfold Oper.wp
           rw[kG]
           exact hU.upon fun val w' hv=>by
            obtain⟨_,φ',q1,q2,q3⟩:=key val w' hv
            exact hn val w' φ' q1 q2 q3
         · simp at h1
       · exact absurd h1 aC
     · exact absurd ag aC
   · simp at aY
 · simp at aY
 · rename_i b hc
   exfalso
   revert aY
   split<;> (try split) <;> (try split) <;> (try split) <;>simp<;> (try (intro e;subst e;simp[vb.jG] at Ew)) <;> (try (intros;subst_vars;simp[vb.jG] at Ew)) <;> (try (rintro rfl;simp[vb.jG] at Ew))
   all_goals (split at Ew<;>first| (simp at Ew;done) | (split at Ew<;>simp at Ew) | (rename_i h9;split at h9<;>simp at h9) | (rename_i h9;unfold PC at h9; (repeat' split at h9) <;>simp at h9))
theorem CQ {op:BinOp} {t:TypeId} {x y:bg} {rq:vb} (h:HL X op t x y=some rq):rq.jG=false:=by
 unfold HL at h
 repeat' split at h
 all_goals first
  | (injection h with h;subst h;rfl)
  | (simp only[Option.map_eq_some_iff] at h;obtain⟨_,_,rfl⟩:=h;rfl)
  | (simp at h;done)
theorem sL {α:Type} {x:Option α} {f:α→vb} {rq:vb} (h:x.map f=some rq) (hf: ∀a,(f a).jG=false):rq.jG=false:=by
 cases x with
 | none=>simp at h
 | some a=>simp at h;subst h;exact hf a
theorem Au {h:Hints} {dst:Nat} {x:Operand} {rq:vb} (ht:yX X h dst x=some rq):rq.jG=false:=by
 unfold yX at ht
 split at ht
 · injection ht with ht;subst ht;rfl
 · split at ht
   · exact sL ht fun _=>rfl
   · exact sL ht fun _=>rfl
theorem EK {h:Hints} {dst:Nat} {op:Op} {rq:vb} (hn: ∀c,op≠ .call c) (aY:An X h dst op=some rq):rq.jG=false:=by
 unfold An at aY
 split at aY
 all_goals try exact absurd rfl (hn _)
 all_goals
  repeat' split at aY
  all_goals first
   | (injection aY with aY;subst aY;rfl)
   | (injection aY with aY;subst aY;split<;>rfl)
   | exact sL aY fun _=>rfl
   | exact CQ aY
   | exact Au aY
   | (exfalso;simp at aY;done)
theorem CR (oW: ∀t1 t2 k,X.ku t1=some k→X.ku t2=some k→t1=t2) (hC: ∀f F as res,X.kh F=some f→C f as=some res→dA X.toTrEnv F as res):oO X E C:=by
 intro h dst o rq a T μ v σ' iO hr aY ag
 cases hc:rq.jG with
 | true=>
   cases dN:o.op with
   | call c=>
     rw[dN] at aY
     simp only[An] at aY
     exact Mw hC hr dN aY hc ag
   | _=>
     have:=EK (by rw[dN];simp) aY
     rw[this] at hc;simp at hc
 | false=>
   obtain⟨hT,val,w',φ',EL,h1,h2,h3⟩:=Ma oW iO hr aY hc ag
   refine⟨hT,fun next Q hn=> ?_⟩
   unfold Oper.wp
   rcases EL with EL| ⟨EL,rfl⟩
   · rw[EL];exact hn _ _ _ h1 h2 h3
   · rw[EL];exact hn _ _ _ h1 h2 h3
end
end Go.AM
namespace Go.AM
open Go Go.RowKit
theorem oj: ∀l:List V,V.erases l=l.map V.erase
 | []=>rfl
 | v::vs=>by simp only[V.erases,List.map_cons,oj vs]
theorem eF (l:List V): (V.erases l).length=l.length:=by rw[oj];simp
theorem uL (v:V):v.erase.aV=v.aV:=by cases v<;>rfl
theorem EM (v:V):v.erase.isAgg=v.isAgg:=by cases v<;>rfl
theorem lS (v:V):v.erase.dX=v.dX:=by unfold V.dX;rw[EM,uL]
theorem EN (v:V):v.erase.cells=V.erases v.cells:=by cases v<;>rfl
theorem Av (v:V) (sz:Nat):aZ v.erase sz=aZ v sz:=by unfold aZ;rw[EN,eF,lS]
theorem lT {p:V→Bool} (hp: ∀v,p v.erase=p v): ∀l:List V,(V.erases l).all p=l.all p
 | []=>rfl
 | v::vs=>by simp only[V.erases,List.all_cons,hp,lT hp vs]
mutual
theorem fP: ∀v:V,v.erase.aj=v.aj
 | .agg cs=>by simp only[V.erase,V.aj];exact dd cs
 | .tuple cs=>by simp only[V.erase,V.aj];exact dd cs
 | .mlit es=>by simp only[V.erase,V.aj];exact dd es
 | .fn f cs=>by simp only[V.erase,V.aj];exact dd cs
 | .bfn f cs=>by simp only[V.erase,V.aj];exact dd cs
 | .iface t v=>by simp only[V.erase,V.aj];exact fP v
 | .litk .. | .epk .. | .lit .. | .own .. | .eptr .. | .msl .. | .mptr .. | .bool _| .int .. | .float _| .str _| .nilp| .nilfn| .nili| .nils| .sl .. | .ptr .. | .mp .. | .it .. | .any=>rfl
theorem dd: ∀l:List V,V.ae (V.erases l)=V.ae l
 | []=>rfl
 | v::vs=>by simp only[V.erases,V.ae,fP v,dd vs]
end
theorem mM (es:List V) (off len:Nat):bb (V.erases es) off len=V.erases (bb es off len):=by
 simp only[bb,oj,List.map_take,List.map_drop]
section
variable {X X':Ctx} {μ μ':Mu}
mutual
theorem au.erase (hX:X'.toTrEnv=X.toTrEnv) (hw:μ'.w=μ.w) (hφ:μ'.φ=μ.φ) (hO: ∀r,(μ'.O r).gen=(μ.O r).gen∧(μ'.O r).sz=(μ.O r).sz) (ho: ∀b,Own X' μ' b→Own X μ b): ∀ {x:V} {v:Value},au X μ x v→au X' μ' x.erase v
 | .bool _,_,h| .int ..,_,h| .float _,_,h| .str _,_,h| .nilp,_,h| .nilfn,_,h| .nili,_,h| .nils,_,h=>by simpa [V.erase,au] using h
 | .any,_,_=>by simp[V.erase,au]
 | .own ..,_,h| .msl ..,_,h| .mptr ..,_,h=>by simp[au] at h
 | .agg cs,_,h=>by
   simp only[V.erase,au] at h ⊢
   obtain⟨h1,vs,rfl,h2⟩:=h
   exact⟨by rw[lT uL];exact h1,vs,rfl,ak.erase hX hw hφ hO ho h2⟩
 | .tuple cs,_,h=>by
   simp only[V.erase,au] at h ⊢
   obtain⟨vs,rfl,h2⟩:=h
   exact⟨vs,rfl,ak.erase hX hw hφ hO ho h2⟩
 | .bfn f cs,_,h=>by
   simp only[V.erase,au] at h ⊢
   obtain⟨F,cv,rfl,h1,h2⟩:=h
   exact⟨F,cv,rfl,by rw[hX];exact h1,ak.erase hX hw hφ hO ho h2⟩
 | .fn f cs,_,h=>by
   simp only[V.erase,au] at h ⊢
   obtain⟨F,cv,rfl,h1,h2⟩:=h
   exact⟨F,cv,rfl,by rw[hX];exact h1,ak.erase hX hw hφ hO ho h2⟩
 | .iface t x,_,h=>by
   simp only[V.erase,au] at h ⊢
   obtain⟨F,y,rfl,h1,h2⟩:=h
   exact⟨F,y,rfl,by rw[hX];exact h1,au.erase hX hw hφ hO ho h2⟩
 | .lit sz xs,_,h=>by
   simp only[V.erase,au] at h ⊢
   obtain⟨h0,lY,a,cap,vs,rfl,h1,h2,h3⟩:=h
   refine⟨by rw[dd];exact h0,by rw[lT lS];exact lY,a,cap,vs,by rw[eF],by rw[eF];exact h1,ak.erase hX hw hφ hO ho h2,h3.imp (fun h=>by rw[h];rfl) ?_⟩
   rintro⟨b,o,rfl,hb,hs,hr⟩
   exact⟨b,o,rfl,fun hh=>hb (ho b hh),by rw[hw];exact hs,by rw[hw];exact hr⟩
 | .litk sz xs,_,h=>by
   simp only[V.erase,au] at h ⊢
   obtain⟨h0,lY,a,cap,vs,rfl,h1,h2,h3⟩:=h
   refine⟨by rw[dd];exact h0,by rw[lT lS];exact lY,a,cap,vs,by rw[eF],by rw[eF];exact h1,ak.erase hX hw hφ hO ho h2,h3.imp (fun h=>by rw[h];rfl) ?_⟩
   rintro⟨rfl,hb,hs,hr⟩
   exact⟨_,_,rfl,fun hh=>hb (ho _ hh),by rw[hw];exact hs,by rw[hw];exact hr⟩
 | .sl r g off len,_,h=>by
   simp only[V.erase,au] at h ⊢
   rw[hφ,(hO r).1,(hO r).2];exact h
 | .ptr r g idx off,_,h=>by
   simp only[V.erase,au] at h ⊢
   rw[hφ,(hO r).1,(hO r).2];exact h
 | .eptr e off,_,h=>by
   simp only[V.erase,au] at h ⊢
   obtain⟨h0,lY,b,o,sz,x,rfl,hb,hs,h1,hr⟩:=h
   exact⟨by rw[fP];exact h0,by rw[lS];exact lY,b,o,sz,x,rfl,fun hh=>hb (ho b hh),by rw[hw];exact hs,au.erase hX hw hφ hO ho h1,by rw[hw];exact hr⟩
 | .epk i sz e off,_,h=>by
   simp only[V.erase,au] at h ⊢
   obtain⟨h0,lY,x,rfl,hb,hs,h1,hr⟩:=h
   exact⟨by rw[fP];exact h0,by rw[lS];exact lY,_,X.tok.2+i*sz,sz,x,rfl,fun hh=>hb (ho _ hh),by rw[hw];exact hs,au.erase hX hw hφ hO ho h1,by rw[hw];exact hr⟩
 | .mp r g,_,h| .it r g,_,h=>by
   simp only[V.erase,au] at h ⊢
   rw[hφ,(hO r).1,(hO r).2];exact h
 | .mlit es,_,h=>by
   simp only[V.erase,au] at h ⊢
   obtain⟨h0,h⟩:=h
   refine⟨by rw[dd];exact h0,h.imp (fun h=> ⟨by rw[h.1];rfl,h.2⟩) ?_⟩
   rintro⟨a,ents,clock,rfl,hb,hs,h1,h2⟩
   exact⟨a,ents,clock,rfl,fun hh=>hb (ho a hh),by rw[hw];exact hs,by rw[hw];exact h1,ak.erase hX hw hφ hO ho h2⟩
theorem ak.erase (hX:X'.toTrEnv=X.toTrEnv) (hw:μ'.w=μ.w) (hφ:μ'.φ=μ.φ) (hO: ∀r,(μ'.O r).gen=(μ.O r).gen∧(μ'.O r).sz=(μ.O r).sz) (ho: ∀b,Own X' μ' b→Own X μ b): ∀ {xs:List V} {vs:List Value},ak X μ xs vs→ak X' μ' (V.erases xs) vs
 | [],[],_=>by simp[V.erases,ak]
 | [],_::_,h=>by simp[ak] at h
 | _::_,[],h=>by simp[ak] at h
 | x::xs,v::vs,h=>by
   simp only[V.erases,ak] at h ⊢
   exact⟨au.erase hX hw hφ hO ho h.1,ak.erase hX hw hφ hO ho h.2⟩
end
end
def eC (O:Nat→Obj):Nat→Obj:=fun r=> {O r with es:=(O r).es.map V.erases}
section
variable {X:TrEnv} {B:Nat→Prop} {K K':Nat×Nat} {w:World} {φ:Nat→Row} {O:Nat→Obj}
theorem oo {b:Nat}: (Mu.mk w φ (eC O)).own b↔(Mu.mk w φ O).own b:=by
 simp only[Mu.own,eC,Option.isSome_map]
theorem Bu {x:V} {v:Value} (h:au ⟨X,B,K⟩ ⟨w,φ,O⟩ x v):au ⟨X,B,K'⟩ ⟨w,φ,eC O⟩ x.erase v:=
 au.erase (X:=⟨X,B,K⟩) (X':=⟨X,B,K'⟩) (μ:=⟨w,φ,O⟩) (μ':=⟨w,φ,eC O⟩) rfl rfl rfl (fun _=> ⟨rfl,rfl⟩) (fun b hb=>hb.imp oo.1 id) h
theorem sM {xs:List V} {vs:List Value} (h:ak ⟨X,B,K⟩ ⟨w,φ,O⟩ xs vs):ak ⟨X,B,K'⟩ ⟨w,φ,eC O⟩ (V.erases xs) vs:=
 ak.erase (X:=⟨X,B,K⟩) (X':=⟨X,B,K'⟩) (μ:=⟨w,φ,O⟩) (μ':=⟨w,φ,eC O⟩) rfl rfl rfl (fun _=> ⟨rfl,rfl⟩) (fun b hb=>hb.imp oo.1 id) h
theorem w8 (h:bQ ⟨X,B,K⟩ ⟨w,φ,O⟩):bQ ⟨X,B,K'⟩ ⟨w,φ,eC O⟩ where
 ok:=fun r es bX=>by
  simp only[eC,Option.map_eq_some_iff] at bX
  obtain⟨sW,agc,rfl⟩:=bX
  rcases h.ok r sW agc with⟨h1,h2,h3,h4⟩ | ⟨h1,h2,ob,h3,h4⟩
  · refine .inl ⟨h1,by rw[eF];exact h2,by rw[lT (fun v=>Av v _)];exact h3,h4.imp id ?_⟩
    rintro⟨c,T,vs,k1,k2,k3,k4⟩
    exact⟨c,T,vs,k1,k2,sM k3,k4⟩
  · refine .inr ⟨h1,h2,ob,h3,?_⟩
    rcases h4 with⟨ents,clock,k1,k2,k3⟩ | ⟨s,pos,k1,k2⟩ | ⟨mo,since,es1,k1,k2,k3⟩
    · exact .inl ⟨ents,clock,k1,sM k2,k3⟩
    · exact .inr (.inl ⟨s,pos,k1,by rw[k2];rfl⟩)
    · refine .inr (.inr ⟨mo,since,V.erases es1,k1,by rw[k2];rfl,k3.imp (fun h=> ⟨h.1,by rw[h.2];rfl⟩) ?_⟩)
      rintro⟨m,ents,l1,l2,l3,l4,l5,l6⟩
      exact⟨m,ents,l1,fun hh=>l2 (hh.imp oo.1 id),l3,l4,l5,sM l6⟩
 inj:=fun r r' cu h1 h2 h3 h4=>h.inj r r' cu (by simpa [eC] using h1) (by simpa [eC] using h2) h3 h4
 wL:=fun r h1 h2=>h.wL r (by simpa [eC] using h1) h2
 blt:=h.blt
theorem ny {n:Nat} {T T':Nat→V} {c c':V} {rs:List Nat} (h:cp n ⟨T,O⟩ c=some (c',rs)):cp n ⟨T',eC O⟩ c.erase=some (c'.erase,rs):=by
 have other: (∀r g off len,c≠ .sl r g off len)→c.aj=true→c'=c∧rs=[]→cp n ⟨T',eC O⟩ c.erase=some (c'.erase,rs):=by
   rintro hns hp ⟨rfl,rfl⟩
   have Fl:c'.erase.aj=true:=by rw[fP];exact hp
   cases c'<;>first| exact absurd rfl (hns _ _ _ _) | (simp only[V.erase] at Fl ⊢;simp only[cp,Fl,if_true])
 unfold cp at h
 split at h
 · rename_i r g off len
   simp only[V.erase,cp]
   split at h
   · rename_i es bX
     have gU: (eC O r).es=some (V.erases es):=by
       have: (O r).es=some es:=bX
       simp only[eC,this,Option.map_some]
     simp only[gU]
     split at h
     · rename_i hc
       have C9: (eC O r).gen=g∧off+len≤(V.erases es).length∧(eC O r).arr=true∧V.ae (bb (V.erases es) off len)=true:=
         ⟨hc.1,by rw[eF];exact hc.2.1,hc.2.2.1,by rw[mM,dd];exact hc.2.2.2⟩
       rw[if_pos C9]
       split at h
       · rename_i hr
         rw[if_pos hr]
         simp only[Option.some.injEq,Prod.mk.injEq] at h
         obtain⟨rfl,rfl⟩:=h;rfl
       · rename_i hr
         rw[if_neg hr]
         split at h
         · rename_i hf
           rw[if_pos (show (eC O r).fz=true from hf)]
           simp only[Option.some.injEq,Prod.mk.injEq] at h
           obtain⟨rfl,rfl⟩:=h
           simp only[V.erase,mM]
           rfl
         · rename_i hf
           rw[if_neg (show ¬ (eC O r).fz=true from hf)]
           simp only[Option.some.injEq,Prod.mk.injEq] at h
           obtain⟨rfl,rfl⟩:=h
           simp only[V.erase,mM]
           rfl
     · simp at h
   · simp at h
 · rename_i hns
   split at h
   · rename_i hp
     simp only[Option.some.injEq,Prod.mk.injEq] at h
     obtain⟨rfl,rfl⟩:=h
     exact other (fun r g off len e=>hns r g off len e) hp ⟨rfl,rfl⟩
   · simp at h
theorem jj {n:Nat} {T T':Nat→V}: ∀ {cs dC:List V} {rs:List Nat},bV n ⟨T,O⟩ cs=some (dC,rs)→bV n ⟨T',eC O⟩ (V.erases cs)=some (V.erases dC,rs)
 | [],dC,rs,h=>by
   simp only[bV,Option.some.injEq,Prod.mk.injEq] at h
   obtain⟨rfl,rfl⟩:=h;rfl
 | c::cs,dC,rs,h=>by
   simp only[bV] at h
   split at h
   · rename_i c1 r1 YR XC h1 h2
     simp only[Option.some.injEq,Prod.mk.injEq] at h
     obtain⟨rfl,rfl⟩:=h
     simp only[V.erases,bV,ny (T':=T') h1,jj h2]
   · simp at h
theorem sa {n:Nat} {T T':Nat→V} {v v':V} {rs:List Nat} (h:dI n ⟨T,O⟩ v=some (v',rs)):dI n ⟨T',eC O⟩ v.erase=some (v'.erase,rs):=by
 unfold dI at h
 split at h
 · rename_i hp
   simp only[Option.some.injEq,Prod.mk.injEq] at h
   obtain⟨rfl,rfl⟩:=h
   simp only[dI,fP,hp,if_true]
 · rename_i hp
   have Fl: ¬v.erase.aj=true:=by rw[fP];exact hp
   unfold dI
   rw[if_neg Fl]
   split at h
   · rename_i cs
     split at h
     · rename_i YR XC h1
       simp only[Option.some.injEq,Prod.mk.injEq] at h
       obtain⟨rfl,rfl⟩:=h
       simp only[V.erase,jj (T':=T') h1]
     · simp at h
   · rename_i f cs
     split at h
     · rename_i YR XC h1
       split at h
       · rename_i hc
         simp only[Option.some.injEq,Prod.mk.injEq] at h
         obtain⟨rfl,rfl⟩:=h
         simp only[V.erase,jj (T':=T') h1,dd,hc,if_true]
       · simp at h
     · simp at h
   · rename_i h1 h2
     have:=ny (T':=T') h
     cases v<;>first| exact absurd rfl (h1 _) | exact absurd rfl (h2 _ _) | exact this
theorem qi {n:Nat} {T T':Nat→V}: ∀ {cs dC:List V} {rs:List Nat},da n ⟨T,O⟩ cs=some (dC,rs)→da n ⟨T',eC O⟩ (V.erases cs)=some (V.erases dC,rs)
 | [],dC,rs,h=>by
   simp only[da,Option.some.injEq,Prod.mk.injEq] at h
   obtain⟨rfl,rfl⟩:=h;rfl
 | c::cs,dC,rs,h=>by
   simp only[da] at h
   split at h
   · rename_i c1 r1 YR XC h1 h2
     simp only[Option.some.injEq,Prod.mk.injEq] at h
     obtain⟨rfl,rfl⟩:=h
     simp only[V.erases,da,sa (T':=T') h1,qi h2]
   · simp at h
theorem dP.erase {n:Nat} {T T':Nat→V} {v0 v:V} {rs:List Nat} (h:dP n ⟨T,O⟩ v0 v rs):dP n ⟨T',eC O⟩ v0.erase v.erase rs:=by
 cases h with
 | one h=>exact .one (sa h)
 | many h=>simp only[V.erase];exact .many (qi h)
end
theorem GB {v:V} (h:v.aj=true): (yF v).aj=true:=by
 unfold yF;split
 · rfl
 · exact h
theorem uM (v:V): (yF v).aV=v.aV:=by
 unfold yF;split<;>rfl
section
variable {X:TrEnv} {B:Nat→Prop} {K:Nat×Nat} {μ:Mu}
theorem JT (c:Nat) {x:V} {v:Value} (hx: ∀K,au ⟨X,B,K⟩ μ x v): ∃K,au ⟨X,B,K⟩ μ (DC c x) v:=by
 unfold DC
 split
 · rename_i cs
   by_cases hc: ∃sz xs,cs[c]? =some (.lit sz xs)∧xs≠[]
   · obtain⟨sz,xs,nT,cu⟩:=hc
     obtain⟨h1,vs,rfl,h2⟩:cs.all V.aV=true∧ ∃vs,v= .agg vs∧ak ⟨X,B,(0,0)⟩ μ cs vs.toList:=by have:=hx (0,0);simpa only[au] using this
     obtain⟨u,hu,cK⟩:=h2.get nT
     simp only[au] at cK
     obtain⟨k0,YS,a,cap,us,rfl,k1,k2,k3⟩:=cK
     obtain⟨b,o,rfl,k4,k5,k6⟩:=k3.resolve_left cu
     refine⟨(b,o),?_⟩
     have Jt:ak ⟨X,B,(b,o)⟩ μ cs vs.toList:=by
       have:=hx (b,o)
       simp only[au] at this
       obtain⟨_,vs',e,h⟩:=this
       injection e with e;subst e;exact h
     simp only[au]
     refine⟨?_,vs,rfl,?_⟩
     · rw[List.all_eq_true] at h1 ⊢
       intro y hy
       obtain⟨i,hi⟩:=List.mem_iff_getElem?.1 hy
       rw[List.getElem?_modify,Option.map_eq_map,Option.map_eq_some_iff] at hi
       obtain⟨z,hz,rfl⟩:=hi
       have NM:=h1 z (List.mem_of_getElem? hz)
       split
       · rw[uM];exact NM
       · exact NM
     · refine ak.y8 (by rw[List.length_modify];exact Jt.length) fun i y u' hy Gf=> ?_
       rw[List.getElem?_modify,Option.map_eq_map,Option.map_eq_some_iff] at hy
       obtain⟨z,hz,rfl⟩:=hy
       obtain⟨u2,P0,sY⟩:=Jt.get hz
       rw[Gf] at P0;injection P0 with P0;subst P0
       by_cases RM:c=i
       · subst RM
         rw[if_pos rfl]
         rw[nT] at hz;injection hz with hz;subst hz
         rw[hu] at Gf;injection Gf with Gf;subst Gf
         simp only[yF,au]
         simp only[au] at sY
         obtain⟨_,_,a',Jq,ND,e,_,m2,m3⟩:=sY
         injection e with e1 e2 e3
         subst e1;subst e3
         refine⟨k0,YS,_,cap,ND,rfl,k1,m2,.inr ⟨rfl,k4,k5,?_⟩⟩
         rcases m3 with m3| ⟨b',o',e,_,_,m⟩
         · exact absurd m3 cu
         · simp only[Option.some.injEq,Addr.mk.injEq,and_true] at e
           obtain⟨rfl,rfl⟩:=e
           exact m
       · rw[if_neg RM];exact sY
   · refine⟨(0,0),?_⟩
     have h0:=hx (0,0)
     simp only[au] at h0 ⊢
     obtain⟨h1,vs,rfl,h2⟩:=h0
     refine⟨?_,vs,rfl,?_⟩
     · rw[List.all_eq_true] at h1 ⊢
       intro y hy
       obtain⟨i,hi⟩:=List.mem_iff_getElem?.1 hy
       rw[List.getElem?_modify,Option.map_eq_map,Option.map_eq_some_iff] at hi
       obtain⟨z,hz,rfl⟩:=hi
       have NM:=h1 z (List.mem_of_getElem? hz)
       split
       · rw[uM];exact NM
       · exact NM
     · refine ak.y8 (by rw[List.length_modify];exact h2.length) fun i y u' hy Gf=> ?_
       rw[List.getElem?_modify,Option.map_eq_map,Option.map_eq_some_iff] at hy
       obtain⟨z,hz,rfl⟩:=hy
       obtain⟨u2,P0,sY⟩:=h2.get hz
       rw[Gf] at P0;injection P0 with P0;subst P0
       by_cases RM:c=i
       · subst RM
         rw[if_pos rfl]
         unfold yF
         split
         · rename_i sz xs
           have GX:xs=[]:=Classical.byContradiction fun cu=>hc ⟨sz,xs,hz,cu⟩
           subst GX
           simp only[au] at sY ⊢
           obtain⟨k0,YS,a,cap,us,rfl,k1,k2,_⟩:=sY
           exact⟨k0,YS,a,cap,us,rfl,k1,k2,.inl trivial⟩
         · exact sY
       · rw[if_neg RM];exact sY
 · exact⟨(0,0),hx (0,0)⟩
theorem iD (p:Nat×Nat) (args:List V): (eo p args).length=args.length:=by simp[eo,eF]
theorem Aw {p:Nat×Nat} {args:List V} (h:V.ae args=true):V.ae (eo p args)=true:=by
 refine sg fun x hx=> ?_
 obtain⟨i,hi⟩:=List.mem_iff_getElem?.1 hx
 have he:V.ae (V.erases args)=true:=by rw[dd];exact h
 rw[eo,List.getElem?_modify,Option.map_eq_map,Option.map_eq_some_iff] at hi
 obtain⟨z,hz,rfl⟩:=hi
 have NM:=jP he (List.mem_of_getElem? hz)
 split
 · unfold DC
   split
   · rename_i cs
     simp only[V.aj] at NM ⊢
     refine sg fun y hy=> ?_
     obtain⟨j,hj⟩:=List.mem_iff_getElem?.1 hy
     rw[List.getElem?_modify,Option.map_eq_map,Option.map_eq_some_iff] at hj
     obtain⟨u,hu,rfl⟩:=hj
     have Gf:=jP NM (List.mem_of_getElem? hu)
     split
     · exact GB Gf
     · exact Gf
   · exact NM
 · exact NM
theorem Bv {F:FuncId} {p:Nat×Nat} {args:List V} {res:iE} (hp:V.ae args=true) (h:dA X F (eo p args) res):dA X F args ⟨res.val.erase,[]⟩:=by
 intro B K w φ0 vals De hv ho
 have hpm:=Aw (p:=p) hp
 have hO: (enter args).O=fun _=>cb:=by rw[iF hp]
 have hOm: (enter (eo p args)).O=fun _=>cb:=by rw[iF hpm]
 have hT: ∀t a,args[t]? =some a→(enter args).T t=a:=fun t a ha=>by rw[iF hp];simp[List.getD,ha]
 have hTm: ∀t a,(eo p args)[t]? =some a→(enter (eo p args)).T t=a:=fun t a ha=>by rw[iF hpm];simp[List.getD,ha]
 have each: ∀K' t (x:V) v,(V.erases args)[t]? =some x→vals[t]? =some v→au ⟨X,B,K'⟩ ⟨w,φ0,fun _=>cb⟩ x v:=fun K' t x v hx Fk=>by
   rw[oj,List.getElem?_map,Option.map_eq_some_iff] at hx
   obtain⟨y,hy,rfl⟩:=hx
   have:=hv t v Fk
   rw[hT t y hy,hO] at this
   have:=Bu (K':=K') this
   exact this
 obtain⟨K',hK⟩: ∃K',∀x v,(V.erases args)[p.1]? =some x→vals[p.1]? =some v→au ⟨X,B,K'⟩ ⟨w,φ0,fun _=>cb⟩ (DC p.2 x) v:=by
   cases hx: (V.erases args)[p.1]? with
   | none=>exact⟨(0,0),fun x v h1=>by simp at h1⟩
   | some x=>
     cases hu:vals[p.1]? with
     | none=>exact⟨(0,0),fun x v _ h1=>by simp at h1⟩
     | some u=>
       obtain⟨K',hK⟩:=JT (X:=X) (B:=B) (μ:=⟨w,φ0,fun _=>cb⟩) p.2 (fun K'=>each K' p.1 x u hx hu)
       exact⟨K',fun y v h1 h2=>by injection h1 with h1;injection h2 with h2;subst h1;subst h2;exact hK⟩
 have hU:=h B K' w φ0 vals (by rw[iD];exact De) (fun t v Fk=>by
   rw[hOm]
   have bY:t< (eo p args).length:=by rw[iD,←De];exact(List.getElem?_eq_some_iff.1 Fk).1
   obtain⟨y,oe⟩: ∃y,(eo p args)[t]? =some y:=⟨_,List.getElem?_eq_getElem bY⟩
   rw[hTm t _ oe]
   have XD:=oe
   simp only[eo] at XD
   rw[List.getElem?_modify,Option.map_eq_map,Option.map_eq_some_iff] at XD
   obtain⟨z,hz,Ae⟩:=XD
   rw[←Ae]
   split
   · rename_i e
     subst e
     exact hK z v hz Fk
   · exact each K' t z v hz Fk) (by
   rw[hOm]
   rw[hO] at ho
   have:=w8 (K':=K') ho
   exact this)
 rw[hOm] at hU
 rw[hO]
 have post: ∀val w',(∃φ' T' O' v0 refs,Le ⟨w,φ0,fun _=>cb⟩ ⟨w',φ',O'⟩∧bQ ⟨X,B,K'⟩ ⟨w',φ',O'⟩∧
     au ⟨X,B,K'⟩ ⟨w',φ',O'⟩ v0 val∧dP (eo p args).length ⟨T',O'⟩ v0 res.val refs∧distinct refs=true∧cA O' 0 (eo p args)=some res.outs)→
     ∃φ' T' O' v0 refs,Le ⟨w,φ0,fun _=>cb⟩ ⟨w',φ',O'⟩∧bQ ⟨X,B,K⟩ ⟨w',φ',O'⟩∧
     au ⟨X,B,K⟩ ⟨w',φ',O'⟩ v0 val∧dP args.length ⟨T',O'⟩ v0 (iE.mk res.val.erase []).val refs∧distinct refs=true∧cA O' 0 args=some (iE.mk res.val.erase []).outs:=by
   rintro val w' ⟨φ',T',O',v0,refs,k1,k2,k3,k4,k5,k6⟩
   rw[iD] at k4
   refine⟨φ',T',eC O',v0.erase,refs,?_,w8 k2,Bu k3,k4.erase,k5,iK hp⟩
   exact⟨k1.size,fun b hb hn=> ⟨(k1.dq b hb hn).1,fun h'=> (k1.dq b hb hn).2 (oo.1 h')⟩,k1.gen,k1.row,k1.os,k1.output,k1.tape,k1.frozen⟩
 unfold CN at hU ⊢
 split at hU
 · exact post _ _ hU
 · refine Calls.mono hU fun e w' he=> ?_
   cases e with
   | returned v=>exact post _ _ he
   | panicked c=>exact he.elim
   | outgrown=>exact he.elim
 · exact hU.elim
end
end Go.AM
namespace Go.AM
open Go Go.RowKit
structure wc (X:TrEnv) (E:Env):Prop where
 inj: ∀t1 t2 k,X.ku t1=some k→X.ku t2=some k→t1=t2
 mixed:X.P.follows .mixedOrders=true
 fn: ∀f af F,E.fn f=some af→X.kh F=some f→ ∃fn h c,X.P.funcs[F]? =some fn∧(fn.name== "runtime.NumGoroutine")=false∧fn.body=some c∧aN X h fn=some af∧af.nparams≤fn.ntmps
 ext: ∀f as res F,E.ext f as=some res→X.kh F=some f→dA X F as res
 iter: ∀g F caps xs,E.iter g caps=some xs→X.kh F=some g→ ∀ (B:Nat→Prop) (K:Nat×Nat) (μ:Mu) (lb:Array Value),ak ⟨X,B,K⟩ μ caps lb.toList→bQ ⟨X,B,K⟩ μ→xS ⟨X,B,K⟩ μ F lb xs
 hyb: ∀f h F,E.hyb f=some h→X.kh F=some f→ ∀C:bO,(∀f F as res,X.kh F=some f→C f as=some res→dA X F as res)→ ∀as res,h C as=some res→dA X F as res
section
variable {X:Ctx} {T:Nat→V} {a:Go.Act} {μ:Mu}
theorem CS (  hr:Rel X T a μ) {r:ResultVar} {r':sf} (aY:uq X r=some r') {v:V} (h:fV ⟨T,μ.O⟩ r'=some v):
   ∃val,((match r with| .tmp t=>pure (a.tmps.getD t undef) | .cell c t=>do loadVar t (←asAddr (a.tmps.getD c undef)):Sem Value)).run X.P μ.w= .ok val μ.w∧au X μ v val:=by
 cases r with
 | tmp t=>
   simp[uq] at aY;subst aY
   simp only[fV,Option.some.injEq] at h;subst h
   exact⟨_,rfl,hr.tmps t⟩
 | cell c t=>
   simp only[uq] at aY
   split at aY
   · rename_i g sz hg hn
     injection aY with aY;subst aY
     simp only[fV] at h
     split at h
     · rename_i r gn idx off e
       split at h
       · rename_i es bX
         split at h
         · rename_i cW
           split at h
           · rename_i el qQ
             have hx:=hr.tmps c
             rw[e] at hx
             simp only[au] at hx
             obtain⟨p,hP,_,dm⟩:=hx
             obtain⟨Am,dm⟩:=dm cW
             obtain⟨xv,gD,_,gm⟩:=Ec hr.bB bX qQ Am
             obtain⟨val,hl,cK⟩:=qP gD h hg hn gm
             refine⟨val,?_,cK⟩
             rw[dm] at hP
             show (do loadVar t (←asAddr (a.tmps.getD c undef)):Sem Value).run X.P μ.w=_
             rw[hP]
             simpa [Sem.run_bind,asAddr,Sem.run] using hl
           · simp at h
         · simp at h
       · simp at h
     · simp at h
   · simp at aY
theorem uN (hr:Rel X T a μ): ∀ {rs:List ResultVar} {rs':List sf} {vs:List V},jE X rs=some rs'→dL ⟨T,μ.O⟩ rs'=some vs→
   ∃vals,(rs.mapM (fun r=> (match r with| .tmp t=>pure (a.tmps.getD t undef) | .cell c t=>do loadVar t (←asAddr (a.tmps.getD c undef)):Sem Value))).run X.P μ.w= .ok vals μ.w∧ak X μ vs vals
 | [],rs',vs,h1,h2=>by
   simp[jE] at h1;subst h1
   simp[dL] at h2;subst h2
   exact⟨[],by simp[Sem.run],by simp[ak]⟩
 | r::rs,rs',vs,h1,h2=>by
   simp only[jE] at h1
   split at h1
   · rename_i r1 XC k1 k2
     injection h1 with h1;subst h1
     simp only[dL] at h2
     split at h2
     · rename_i v vs1 m1 m2
       injection h2 with h2;subst h2
       obtain⟨val,n1,n2⟩:=CS hr k1 m1
       obtain⟨vals,p1,p2⟩:=uN hr k2 m2
       refine⟨val::vals,?_,by simp only[ak];exact⟨n2,p2⟩⟩
       simp only[List.mapM_cons,Sem.run_bind,n1,Result.andThen,p1]
       rfl
     · simp at h2
   · simp at h1
theorem sb (hr:Rel X T a μ) {fn:Func} {rs':List sf} {vs:List V} (h1:jE X fn.results.toList=some rs') (h2:dL ⟨T,μ.O⟩ rs'=some vs):
  ∃vals,(results fn a.tmps).run X.P μ.w= .ok (match vals with| [v]=>v| vs=> .tuple vs.toArray) μ.w∧ak X μ vs vals:=by
 obtain⟨vals,k1,k2⟩:=uN hr h1 h2
 refine⟨vals,?_,k2⟩
 have hm: (fn.results.mapM (fun r=> (match r with| .tmp t=>pure (a.tmps.getD t undef) | .cell c t=>do loadVar t (←asAddr (a.tmps.getD c undef)):Sem Value))).run X.P μ.w= .ok vals.toArray μ.w:=by
  rw[Array.mapM_eq_mapM_toList]
  show Sem.run X.P (_ >>=fun l=>pure (List.toArray l)) _=_
  rw[Sem.run_bind,k1]
  rfl
 unfold results
 rw[Sem.run_bind]
 refine(congrArg (fun r=>Result.andThen r (fun vs w'=>Sem.run X.P (pure (if h:vs.size=1 then vs[0] else Value.tuple vs)) w')) hm).trans ?_
 match vals with
 | []=>rfl
 | [v]=>rfl
 | _::_::_=>rfl
end
section
variable {X:TrEnv} {E:Env}
theorem Bw {  af:aU} {args:List V} {σ:St} {res:iE} (h:leave af args σ=some res):
   ∃vs,dL σ af.results=some vs∧cA σ.O 0 args=some res.outs∧ ∃refs,distinct refs=true∧
     ∀v0,v0=(match vs with| [v]=>v| vs=> .tuple vs)→dP args.length σ v0 res.val refs:=by
 unfold leave at h
 split at h
 · rename_i vs outs h1 h2
   refine⟨vs,h1,?_⟩
   split at h
   · rename_i v rs hx
     split at h
     · rename_i hd
       injection h with h;subst h
       refine⟨h2,rs,hd,?_⟩
       rintro v0 rfl
       match vs,hx with
       | [u],hx=>
         simp only[da] at hx
         split at hx
         · rename_i c' r dC rs' k1 k2
           simp only[Option.some.injEq,Prod.mk.injEq,List.cons.injEq] at hx k2
           obtain⟨⟨rfl,rfl⟩,rfl⟩:=hx
           obtain⟨_,rfl⟩:=k2
           simpa using dP.one k1
         · simp at hx
       | [],hx=>simp[da] at hx
       | _::_::_,hx=>
         simp only[da] at hx
         split at hx
         · rename_i k1 k2
           split at k2
           · simp only[Option.some.injEq,Prod.mk.injEq] at hx k2
             obtain⟨e1,_⟩:=k2
             subst e1
             simp at hx
           · simp at k2
         · simp at hx
     · simp at h
   · rename_i vs' rs hns hx
     split at h
     · rename_i hd
       injection h with h;subst h
       refine⟨h2,rs,hd,?_⟩
       rintro v0 rfl
       match vs,hx with
       | [u],hx=>
         exfalso
         simp only[da] at hx
         split at hx
         · rename_i c' r dC rs' k1 k2
           simp only[Option.some.injEq,Prod.mk.injEq] at hx k2
           obtain⟨rfl,rfl⟩:=hx
           obtain⟨rfl,_⟩:=k2
           exact hns _ rfl
         · simp at hx
       | [],hx=>exact .many hx
       | _::_::_,hx=>exact .many hx
     · simp at h
   · simp at h
 · simp at h
theorem qj {P:Program} {fn:Func} {tmps:Array Value} {R:Ending→World→Prop} {n:Fp} (Pw:World→Prop) (Bc: ∀w D,n.fl≤D→w.heap[D]? =some (.deferred (some []))→Pw w→Pw (w.putObj D (.deferred none)))
   (hR: ∀w,Pw w→ ∃v,(results fn tmps).run P w= .ok v w∧R (.returned v) w) {ds:List Deferred} {w:World} (hm:Marks n w ds) (hw:Pw w):LeavesInM (Fr none) 0 P fn tmps R ds .returning w:=by
 obtain⟨_,Ds,rfl,NI,hDs⟩:=hm
 revert w
 induction Ds with
 | nil=>intro w hw _ _;exact hR w hw
 | cons D Ds ih=>
   intro w hw hf hm
   obtain⟨h1,h2⟩:=hm D (by simp)
   rw[List.nodup_cons] at NI
   refine⟨by simp,.inl ⟨D,w.putObj D (.deferred none),rfl,run_takeDeferred h2,?_⟩⟩
   refine ih NI.2 (Bc w D h1 h2 hw) ⟨by simpa [World.putObj] using hf.1,fun l hl=> ?_⟩ fun D' hD'=> ⟨(hm D' (by simp[hD'])).1,?_⟩
   · obtain⟨L,k⟩:=hf.2 l hl
     exact⟨L,(World.putObj_heap_other (fun e=>by rw[e,h2] at k;simp at k)).trans k⟩
   · rw[World.putObj_heap_other (fun e=>NI.1 (by rw[←e];exact hD'))]
     exact(hm D' (by simp[hD'])).2
theorem oq (hE:wc X E) {n:Nat} (hH: ∀m,m<n→ ∀ (B:Nat→Prop) (K:Nat×Nat),oO ⟨X,B,K⟩ E (eH E (exec E m))) {f:Nat} {af:aU} {F:FuncId} (hf:E.fn f=some af) (hF:X.kh F=some f)
   {args:List V} {res:iE} {e:bF} {σ:St} (hlen:args.length=af.nparams) (hx:exec E n af.body (enter args)=some (e,σ)) (he:e= .normal∨e= .ret) (hl:leave af args σ=some res):dA X F args res:=by
 obtain⟨fn,h,c,Ag,uO,kH,aY,hle⟩:=hE.fn f af F hf hF
 intro B K w φ0 vals De hv ho
 have XE: (callFunc F vals.toArray).run X.P w= .ok (.enter F vals.toArray) w:=by
   have GC: (fn.name== "runtime.NumGoroutine")=false:=uO
   simp[callFunc,Sem.run_bind,program,Sem.run,Ag,GC,kH]
   simpa using uO
 rw[XE]
 unfold aN at aY
 rw[kH] at aY
 simp only at aY
 split at aY
 · rename_i ac rs hc hrs
   injection aY with aY
   subst aY
   simp only[CN]
   refine(callsIn_wide (n:=0)).1 (callsIn_of_wp_marks (F:=Fr none) Ag kH trivial ?_ rfl)
   have cJ:vals.toArray.size≤fn.ntmps:=by simp[De,hlen];exact hle
   have iI:jo ⟨X,B,K⟩ ⟨w,φ0,(enter args).O⟩ ⟨fn.ntmps,w.heap.size,none⟩ (enter args) {tmps:=vals.toArray++Array.replicate (fn.ntmps - vals.toArray.size) undef,defers:=[]} w:=by
    refine⟨Marks.nil (Nat.le_refl _) (by simp),by simp at cJ ⊢;omega,φ0,⟨fun t=> ?_,ho⟩,Le.refl _⟩
    by_cases ht:t<vals.length
    · have e1: (vals.toArray++Array.replicate (fn.ntmps - vals.toArray.size) undef).getD t undef=vals[t]:=by
       simp[Array.getElem?_append,ht]
      rw[e1]
      exact hv t _ (List.getElem?_eq_getElem ht)
    · have e1: (vals.toArray++Array.replicate (fn.ntmps - vals.toArray.size) undef).getD t undef=undef:=by
       simp[Array.getElem?_append,ht,Array.getElem?_replicate]
       split<;>rfl
      have e2: (enter args).T t=fj:=by
       have:args[t]? =none:=List.getElem?_eq_none (by omega)
       simp[enter,this]
      rw[e1,e2]
      exact qV
   refine wpIn_mono (oi (X:=⟨X,B,K⟩) hE.mixed (fun g F caps xs h1 h2 μ lb h3 h4=>hE.iter g F caps xs h1 h2 B K μ lb h3 h4) (h:={h with n:=fn.ntmps,AY:=[],full:=[]}) n (fun m hm=>hH m hm B K) rfl c (.inl ⟨rfl,rfl⟩) ac _ _ e _ w hc hx iI) fun ex a' w' hq=> ?_
   obtain⟨rfl,jr,_,φ',hr,oX⟩:=hq
   obtain⟨vs,l1,l2,refs,l3,l4⟩:=Bw hl
   have fin:LeavesInM (Fr none) 0 X.P fn a'.tmps (fun
      | .returned val,w'=> ∃φ' T' O' v0 refs,Le ⟨w,φ0,(enter args).O⟩ ⟨w',φ',O'⟩∧bQ ⟨X,B,K⟩ ⟨w',φ',O'⟩∧au ⟨X,B,K⟩ ⟨w',φ',O'⟩ v0 val∧dP args.length ⟨T',O'⟩ v0 res.val refs∧distinct refs=true∧cA O' 0 args=some res.outs
      | _,_=>False) a'.defers .returning w':=by
    refine qj (fun w'=>Rel ⟨X,B,K⟩ σ.T a' ⟨w',φ',σ.O⟩∧Le ⟨w,φ0,(enter args).O⟩ ⟨w',φ',σ.O⟩) (fun w1 D h1 h2 ⟨hr,hle⟩=> ⟨⟨fun t=>au.dc (jH (μ:=⟨w1,φ',σ.O⟩) h2 rfl rfl) (hr.tmps t),vW hr.bB h2⟩,CL hle h1⟩) (fun w' ⟨hr,oX⟩=> ?_) jr ⟨hr,oX⟩
    obtain⟨Mx,r1,r2⟩:=sb hr hrs l1
    refine⟨_,r1,φ',σ.T,σ.O,_,refs,oX,hr.bB,?_,l4 _ rfl,l3,l2⟩
    match vs,Mx,r2 with
    | [],[],r2=>simp only[au];exact⟨_,rfl,by simpa using r2⟩
    | [v],[u],r2=>simp only[ak] at r2;exact r2.1
    | _::_::_,_::_::_,r2=>simp only[au];exact⟨_,rfl,by simpa using r2⟩
    | [],_::_,r2=>simp[ak] at r2
    | _::_,[],r2=>simp[ak] at r2
    | [_],_::_::_,r2=>simp[ak] at r2
    | _::_::_,[_],r2=>simp[ak] at r2
   rcases he with rfl| rfl
   · exact fin
   · exact fin
 · simp at aY
theorem qk (    hE:wc X E): ∀ (n:Nat) (f:Nat) (F:FuncId) (args:List V) (res:iE),X.kh F=some f→call E n f args=some res→dA X F args res:=by
 intro n
 induction n using Nat.strongRecOn with
 | _ n ih=>
   have low: ∀ (f:Nat) (F:FuncId) (args:List V) (res:iE),X.kh F=some f→kp E (exec E n) f args=some res→dA X F args res:= ?low
   · intro f F args res hF h
     unfold call eH at h
     split at h
     · rename_i g hg
       exact hE.hyb f g F hg hF _ low args res h
     · exact low f F args res hF h
   intro f F args res hF h
   unfold kp at h
   split at h
   · rename_i r he
     injection h with h;subst h
     exact hE.ext f args r F he hF
   · split at h
     · rename_i af hf
       split at h
       · rename_i hlen
         have hH: ∀m,m<n→ ∀ (B:Nat→Prop) (K:Nat×Nat),oO ⟨X,B,K⟩ E (eH E (exec E m)):=fun m hm B K=>CR hE.inj fun f F as res h1 h2=>ih m hm f F as res h1 h2
         split at h
         · split at h
           · rename_i σ hx;exact oq hE hH hf hF hlen hx (.inl rfl) h
           · rename_i σ hx;exact oq hE hH hf hF hlen hx (.inr rfl) h
           · simp at h
         · rename_i p hp
           split at h
           · rename_i BA
             have Be: (eo p args).length=af.nparams:=by rw[iD];exact hlen
             split at h
             · rename_i σ hx
               rw[Option.map_eq_some_iff] at h
               obtain⟨r0,h,rfl⟩:=h
               exact Bv BA (oq hE hH hf hF Be hx (.inl rfl) h)
             · rename_i σ hx
               rw[Option.map_eq_some_iff] at h
               obtain⟨r0,h,rfl⟩:=h
               exact Bv BA (oq hE hH hf hF Be hx (.inr rfl) h)
             · simp at h
           · simp at h
       · simp at h
     · simp at h
end
end Go.AM
namespace Go.AM
open Go Go.RowKit
section
variable {X:TrEnv} {F:FuncId} {fn:Func}
theorem uP {args:List V} (h:V.ae args=true): (enter args).O=fun _=>cb:=by rw[iF h]
def XF:Env:={fn:=fun _=>none,ext:=fun _ _=>none}
def C00:bO:=fun _ _=>none
def strip (o:cF):cF:={o with pre:=[]}
structure sN (X:TrEnv) (fn:Func) (sz dW:Nat):Prop where
 body: ∃i0 i1 i2 i3 My XG Mz MA,fn.body=some (.seq (.region i0 My false) (.seq (.seq (.region i1 XG false) (.cond (.tmp 4) (.seq (.region i2 Mz false) .ret) .skip)) (.seq (.region i3 MA false) .ret)))∧
  (iA X ({n:=fn.ntmps}:Hints) My My.toList).map (List.map strip)=some [⟨some 2,.move (.const .nils),none,[]⟩]∧
  (iA X ({n:=fn.ntmps}:Hints) Mz Mz.toList).map (List.map strip)=some [⟨some 2,.move (.const .nils),none,[]⟩]∧
  (∃zero,aZ zero sz=true∧0 <sz∧(iA X ({n:=fn.ntmps}:Hints) MA MA.toList).map (List.map strip)=some [⟨some 5,.buildSlice 96 sz zero 0 [],none,[]⟩,⟨some 6,.move (.tmp 0),none,[]⟩,⟨some 7,.append 128 sz dW (.tmp 5) (.tmp 6),none,[]⟩,⟨some 2,.move (.tmp 7),none,[]⟩])∧
  (∃o1 o2 t e,XG= #[o1,o2]∧(pQ X ({n:=fn.ntmps}:Hints) #[o1,o2] o1).map strip=some ⟨some 3,.move (.tmp 0),none,[]⟩∧o2.dst=some 4∧o2.guard=none∧o2.op= .binOp .eql t (.tmp 3) (.const (.slice none 0 0)) t∧X.P.underlying t=some (.slice e))
 res:fn.results= #[.tmp 2]
 tmps:8≤fn.ntmps
theorem P1 {Y:Ctx} (oW: ∀t1 t2 k,Y.ku t1=some k→Y.ku t2=some k→t1=t2):oO Y XF C00:=
 CR oW fun _ _ _ _ _ h=>by simp[C00] at h
theorem XH {Y:Ctx} (oW: ∀t1 t2 k,Y.ku t1=some k→Y.ku t2=some k→t1=t2) (n:Nat):oO Y XF (call XF n):=
 CR oW fun _ _ _ _ _ h=>by simp[call,eH,kp,XF] at h
theorem w9 (oW: ∀t1 t2 k,X.ku t1=some k→X.ku t2=some k→t1=t2) (Ag:X.P.funcs[F]? =some fn) (uO: (fn.name== "runtime.NumGoroutine")=false) {sz dW:Nat} (hsh:sN X fn sz dW)
   {as:List V} {res:iE} (h:nG sz dW as=some res):dA X F as res:=by
 obtain⟨⟨i0,i1,i2,i3,My,XG,Mz,MA,kH,h0,h2,⟨zero,vS,Ae,h3⟩,o1,o2,t,e,rfl,RO,Da,XD,DD,I2⟩,jY,htm⟩:=hsh
 rw[Option.map_eq_some_iff] at h0 h2 h3 RO
 obtain⟨bL,h0,k0⟩:=h0
 obtain⟨as2,h2,k2⟩:=h2
 obtain⟨as3,h3,k3⟩:=h3
 obtain⟨ao1,RO,k1⟩:=RO
 have YS:bL.map (fun o=> {o with pre:=[]})=_:=k0
 have k2':as2.map (fun o=> {o with pre:=[]})=_:=k2
 have k3':as3.map (fun o=> {o with pre:=[]})=_:=k3
 obtain⟨a0,xs,rfl,zi,Ap,rfl⟩: ∃a0 xs,as=[a0]∧(a0= .lit sz xs∨a0= .nils∧xs=[])∧xs.length≤dW∧res=⟨.own sz xs,[]⟩:=by
   unfold nG at h
   split at h
   · injection h with h;exact⟨_,[],rfl,.inr ⟨rfl,rfl⟩,by simp,h.symm⟩
   · rename_i sz' xs
     split at h
     · rename_i he;injection h with h;obtain⟨rfl,he⟩:=he;exact⟨_,xs,rfl,.inl rfl,he,h.symm⟩
     · simp at h
   · simp at h
 have BA:V.ae [a0]=true:=by rcases zi with rfl| ⟨rfl,rfl⟩ <;>rfl
 intro B K w φ0 vals De hv ho
 have hO: (enter [a0]).O=fun _=>cb:=uP BA
 have hT0: (enter [a0]).T 0=a0:=by rw[iF BA];rfl
 have XE: (callFunc F vals.toArray).run X.P w= .ok (.enter F vals.toArray) w:=by
   simp[callFunc,Sem.run_bind,program,Sem.run,Ag,kH]
   simpa using uO
 rw[XE]
 simp only[CN]
 refine(callsIn_wide (n:=0)).1 (callsIn_of_wp_marks (F:=Fr none) Ag kH trivial ?_ rfl)
 have cJ:vals.toArray.size≤fn.ntmps:=by simp[De];omega
 have iI:jo ⟨X,B,K⟩ ⟨w,φ0,(enter [a0]).O⟩ ⟨fn.ntmps,w.heap.size,none⟩ (enter [a0]) {tmps:=vals.toArray++Array.replicate (fn.ntmps - vals.toArray.size) undef,defers:=[]} w:=by
   refine⟨Marks.nil (Nat.le_refl _) (by simp),by simp at cJ ⊢;omega,φ0,⟨fun t=> ?_,ho⟩,Le.refl _⟩
   by_cases ht:t<vals.length
   · have e1: (vals.toArray++Array.replicate (fn.ntmps - vals.toArray.size) undef).getD t undef=vals[t]:=by
       simp[Array.getElem?_append,ht]
     rw[e1]
     exact hv t _ (List.getElem?_eq_getElem ht)
   · have e1: (vals.toArray++Array.replicate (fn.ntmps - vals.toArray.size) undef).getD t undef=undef:=by
       simp[Array.getElem?_append,ht,Array.getElem?_replicate]
       split<;>rfl
     have e2: (enter [a0]).T t=fj:=by
       have: [a0][t]? =none:=List.getElem?_eq_none (by omega)
       simp[enter,this]
     rw[e1,e2]
     exact qV
 have H:=P1 (Y:=⟨X,B,K⟩) oW
 refine wpIn_seq (wpIn_mono (wpIn_region (Q:=fun ex a w'=>ex= .normal∧jo ⟨X,B,K⟩ ⟨w,φ0,(enter [a0]).O⟩ ⟨fn.ntmps,w.heap.size,none⟩ ((enter [a0]).put (some 2) .nils) a w') ?_) ?_)
 · rw[List.range_eq_range']
   refine fN H (h:=({n:=fn.ntmps}:Hints)) (.none rfl rfl) rfl h0 My.size 0 (by omega) iI (by rw[List.drop_zero,YS];rfl) fun a' w' kl=> ⟨rfl,kl⟩
 rintro ex a1 w1 ⟨rfl,ub⟩
 refine wpIn_seq (wpIn_seq (wpIn_region ?_))
 have agd:List.range (#[o1,o2]:Array Oper).size=[0,1]:=rfl
 rw[agd,wpOpsIn_cons]
 have eT0: ((enter [a0]).put (some 2) .nils).T 0=a0:=hT0
 have acx:fU XF C00 ao1 ((enter [a0]).put (some 2) .nils)=some (((enter [a0]).put (some 2) .nils).put (some 3) a0):=by
   have hs:fU XF C00 (strip ao1) ((enter [a0]).put (some 2) .nils)=some (((enter [a0]).put (some 2) .nils).put (some 3) a0):=by
     rw[k1]
     show some (((enter [a0]).put (some 2) .nils).put (some 3) (((enter [a0]).put (some 2) .nils).T 0))=_
     rw[eT0]
   exact hs
 refine sH H (h:=({n:=fn.ntmps}:Hints)) (.none rfl rfl) (o:=o1) rfl RO rfl ub acx fun a2 w2 Ck=> ?_
 generalize hσ2: ((enter [a0]).put (some 2) .nils).put (some 3) a0=σ2 at Ck
 have e23:σ2.T 3=a0:=by rw[←hσ2];rfl
 have e20:σ2.T 0=a0:=by rw[←hσ2];exact hT0
 have e2O:σ2.O=fun _=>cb:=by rw[←hσ2];exact hO
 rw[wpOpsIn_cons]
 obtain⟨Mj,acy,φ2,sY,Xt⟩:=Ck
 have P2:=sY.tmps 3
 rw[e23] at P2
 obtain⟨ad,n,cap,bE⟩: ∃ad n cap,a2.tmps.getD 3 undef= .slice ad n cap:=by
   rcases zi with rfl| ⟨rfl,_⟩
   · simp only[au] at P2
     obtain⟨_,_,a,c,_,h,_⟩:=P2
     exact⟨_,_,_,h⟩
   · simp only[au] at P2
     obtain⟨a,h⟩:=P2
     exact⟨_,_,_,h⟩
 have zr:ad.isNone=true→xs=[]:=by
   intro hn
   rcases zi with rfl| ⟨rfl,h9⟩
   · simp only[au] at P2
     obtain⟨_,_,a,c,_,h,_,_,h'⟩:=P2
     rw[bE] at h
     injection h with h _ _
     rcases h' with h'| ⟨b,o,h',_⟩
     · exact h'
     · rw[h,h'] at hn;simp at hn
   · exact h9
 have heq: (Op.equal t (.slice ad n cap) (.slice none 0 0)).run X.P w2= .ok ad.isNone w2:=run_equal_slice_nil w2 t e ad n cap I2
 have kG: (execOp a2.eval o2).run X.P w2= .ok (.value (.bool ad.isNone)) w2:=by
   simp only[execOp,DD]
   refine cO ?_
   have ev:a2.eval (.tmp 3)= .slice ad n cap:=by simpa [Go.Act.eval] using bE
   have fF:a2.eval (.const (.slice none 0 0))= .slice none 0 0:=rfl
   simp[eqGuard,ev,fF,Go.binOp,Sem.run_bind,heq]
 have xr: (#[o1,o2]:Array Oper)[1]? =some o2:=rfl
 simp only[wpOpIn,xr]
 rw[if_pos (by simp[Region.wanted,XD])]
 refine CH (by rw[DD];simp) ?_
 unfold Oper.wp
 rw[kG,Oper.upon_value]
 simp only[wpOpsIn]
 have HY:jo ⟨X,B,K⟩ ⟨w,φ0,(enter [a0]).O⟩ ⟨fn.ntmps,w.heap.size,none⟩ (σ2.put (some 4) (.bool ad.isNone)) (a2.put o2.dst (.bool ad.isNone)) w2:=by
   rw[Da]
   refine⟨by rw[put_defers];exact Mj,by rw[nr];exact acy,φ2,?_,?_⟩
   · exact qU sY (Le.refl _) sY.bB (by simp[au]) (by simp;rw[acy];simp;omega) σ2.O
   · exact Xt
 generalize a2.put o2.dst (.bool ad.isNone)=a3 at HY ⊢
 have Ki:a3.eval (.tmp 4)= .bool ad.isNone:=uG (c':= .tmp 4) HY rfl rfl
 have GX:V.ae xs=true∧xs.all (aZ · sz)=true:=by
   rcases zi with rfl| ⟨rfl,h9⟩
   · simp only[au] at P2
     obtain⟨k1,k2,a,c,vs,_,_,k3,k4⟩:=P2
     refine⟨k1,?_⟩
     rcases k4 with rfl| ⟨b,o,_,_,_,k5⟩
     · rfl
     · rw[List.all_eq_true] at k2 ⊢
       intro x hx
       obtain⟨i,hi⟩:=List.mem_iff_getElem?.1 hx
       obtain⟨v,fX,mn⟩:=ak.get k3 hi
       have:=(k5 i v fX).1
       rw[mn.ej (k2 x hx)] at this
       simp[aZ,this,k2 x hx]
   · subst h9;exact⟨rfl,rfl⟩
 have acz: ∀ (a':Go.Act) (w':World) (O':Nat→Obj),Marks ⟨fn.ntmps,w.heap.size,none⟩ w' a'.defers→(∃φ',Le ⟨w,φ0,(enter [a0]).O⟩ ⟨w',φ',O'⟩∧bQ ⟨X,B,K⟩ ⟨w',φ',O'⟩∧ ∃r g,1≤r∧au ⟨X,B,K⟩ ⟨w',φ',O'⟩ (.sl r g 0 xs.length) (a'.tmps.getD 2 undef)∧O' r=⟨g,sz,true,false,some xs⟩)→
     bodyPostM (Fr none) 0 X.P fn (fun| .returned val,w'=> ∃φ' T' O' v0 refs,Le ⟨w,φ0,(enter [a0]).O⟩ ⟨w',φ',O'⟩∧bQ ⟨X,B,K⟩ ⟨w',φ',O'⟩∧au ⟨X,B,K⟩ ⟨w',φ',O'⟩ v0 val∧dP [a0].length ⟨T',O'⟩ v0 (iE.mk (.own sz xs) []).val refs∧distinct refs=true∧cA O' 0 [a0]=some (iE.mk (.own sz xs) []).outs| _,_=>False) .ret a' w':=by
   rintro a' w' O' hd ⟨φ',k1,k2,r,g,k3,k4,k5⟩
   refine qj (fun w'=> (Le ⟨w,φ0,(enter [a0]).O⟩ ⟨w',φ',O'⟩∧bQ ⟨X,B,K⟩ ⟨w',φ',O'⟩)∧au ⟨X,B,K⟩ ⟨w',φ',O'⟩ (.sl r g 0 xs.length) (a'.tmps.getD 2 undef)) (fun w1 D h1 h2 ⟨⟨hle,Kf⟩,hv⟩=> ⟨⟨CL hle h1,vW Kf h2⟩,au.dc (jH (μ:=⟨w1,φ',O'⟩) h2 rfl rfl) hv⟩) ?_ hd ⟨⟨k1,k2⟩,k4⟩
   rintro w' ⟨⟨k1,k2⟩,k4⟩
   refine⟨a'.tmps.getD 2 undef,by simp[results,jY],φ',fun _=>fj,O',_,[r],k1,k2,k4,.one ?_,rfl,iK BA⟩
   have ql:bb xs 0 xs.length=xs:=nL rfl
   have hnr: ¬r< [a0].length:=by simp;omega
   simp only[dI,V.aj,cp,k5,ql,GX.1,hnr]
   simp
 cases hb:ad.isNone with
 | true=>
   rw[hb] at Ki
   obtain rfl:=zr hb
   refine wpIn_cond_true Ki (wpIn_seq (wpIn_region ?_))
   rw[List.range_eq_range']
   refine fN H (h:=({n:=fn.ntmps}:Hints)) (.none rfl rfl) rfl h2 Mz.size 0 (by omega) HY (σ':=(σ2.put (some 4) (.bool ad.isNone)).put (some 2) .nils) (by rw[List.drop_zero,k2'];rfl) fun a' w' kl=> ?_
   refine wpIn_ret ?_
   obtain⟨oV,_,φ,vf,oX⟩:=kl
   have eO: ((σ2.put (some 4) (.bool ad.isNone)).put (some 2) .nils).O=fun _=>cb:=e2O
   have mn:=vf.tmps 2
   have e2: ((σ2.put (some 4) (.bool ad.isNone)).put (some 2) .nils).T 2= .nils:=rfl
   rw[e2] at mn
   have ig:=vf.bB
   rw[eO] at oX ig
   simp only[au] at mn
   obtain⟨aa,haa⟩:=mn
   refine acz a' w' (eI (fun _=>cb) 1 ⟨1,sz,true,false,some []⟩) oV ⟨eI φ 1 ⟨0,0,0⟩,oX.trans ⟨Nat.le_refl _,fun b hb hn=> ⟨rfl,?_⟩,fun r=> ?_,fun r hr=> ?_,rfl,rfl,rfl,fun _ _=>rfl⟩,⟨fun r es bX=> ?_,fun r r' _ h1 h2 h3 h4=> ?_,fun r h1 h2=> ?_,ig.blt⟩,1,1,Nat.le_refl _,?_,rfl⟩
   · rintro⟨r,h1,h2,h3,h4⟩
     by_cases e:r=1
     · subst e;simp[eI] at h3
     · simp[eI,e,cb] at h1
   · simp only[cb];omega
   · by_cases e:r=1
     · subst e;simp[eI,cb] at hr
     · simp[eI,e]
   · by_cases e:r=1
     · subst e
       simp only[eI,if_true,Option.some.injEq] at bX ⊢
       subst bX
       left
       unfold mq
       simp only[eI,if_true]
       exact⟨Ae,by simp,rfl,by simp⟩
     · simp[eI,e,cb] at bX
   · by_cases e:r=1
     · subst e;simp[eI] at h3
     · simp[eI,e,cb] at h1
   · by_cases e:r=1
     · subst e;simp[eI] at h2
     · simp[eI,e,cb] at h1
   · simp only[au]
     exact⟨aa,0,haa,by simp,by simp[eI],fun _=> ⟨by simpa [eI] using Ae,by simp[eI],by simp⟩⟩
 | false=>
   rw[hb] at Ki
   refine wpIn_cond_false Ki (wpIn_skip ?_)
   refine wpIn_seq (wpIn_region ?_)
   have Q6:NR XF [⟨some 5,.buildSlice 96 sz zero 0 [],none,[]⟩,⟨some 6,.move (.tmp 0),none,[]⟩,⟨some 7,.append 128 sz dW (.tmp 5) (.tmp 6),none,[]⟩,⟨some 2,.move (.tmp 7),none,[]⟩] (σ2.put (some 4) (.bool ad.isNone))
       (fun σ'=> ∃g,σ'.T 2= .sl 96 g 0 xs.length∧σ'.O 96=⟨g,sz,true,false,some xs⟩):=by
     have acA:σ2.O 96=cb:=by rw[e2O]
     have YD:0*sz≤16777216:=by simp
     have hzb:=vS
     simp only[aZ,V.dX] at hzb
     have H5: ∀ (k:List V→Act),content sz a0 k=k xs:=by
       intro k
       rcases zi with rfl| ⟨rfl,rfl⟩ <;>simp[content]
     by_cases hx:xs=[]
     · subst hx
       simp only[xG,nF,tu,tw,xF,qB,qC,tA,tj,xE,tB,xH,eM,jQ,qD,nK,aF.mh,yd,ye,yf,tg,th,yg,BR,tn,ph,tq,pg,tk,yh,BS,aZ,V.dX,V.aj,V.ae,V.isScalar,V.bS,yk,iK,nH,lq,vm,Kt,Ku,Ft,Fu,yj,vl,cb,andThen,yi,jZ,jO,Kw,fj,iE.mk.injEq,V.int.injEq,V.tuple.injEq,List.cons.injEq,V.bool.injEq,V.str.injEq,V.agg.injEq,List.getD_cons_zero,List.getD_cons_succ,List.getD_nil,List.length_cons,List.length_nil,List.getElem?_cons_zero,List.getElem?_cons_succ,List.set_cons_zero,List.set_cons_succ,List.take_succ_cons,List.take_zero,List.drop_succ_cons,List.drop_zero,List.take_nil,List.drop_nil,List.cons_append,List.nil_append,List.append_nil,Nat.zero_add,Nat.add_zero,Nat.reduceAdd,Nat.reduceSub,Nat.reduceMul,Nat.reduceEqDiff,Nat.reduceLT,Nat.reduceLeDiff,Nat.reduceBEq,BEq.rfl,Bool.true_or,Bool.or_true,Bool.false_or,Bool.or_false,Bool.and_true,Bool.true_and,Bool.and_false,Bool.false_and,Bool.and_self,Bool.or_self,Bool.false_eq_true,Bool.true_eq_false,Bool.not_true,Bool.not_false,Nat.lt_add_one,Nat.le_refl,decide_true,decide_false,decide_eq_true_eq,if_true,if_false,↓reduceIte,true_and,and_true,and_self,false_and,and_false,reduceCtorEq,Nat.sub_zero,Option.some.injEq,Nat.zero_lt_one,Nat.lt_irrefl,ne_eq,not_true_eq_false,not_false_eq_true,V.cells.eq_1,V.cells.eq_2,V.isAgg.eq_1,V.isAgg.eq_2,V.aV.eq_1,V.aV.eq_2,V.aV.eq_3,V.aV.eq_4,V.aV.eq_5,V.aV.eq_6,V.aV.eq_7,V.isTuple.eq_1,V.isTuple.eq_2,AM.part.eq_1,AM.part.eq_2,AM.part.eq_3,AM.part.eq_4,AM.dY.eq_1,AM.dY.eq_2,AM.dY.eq_3,AM.dY.eq_4,rf.eq_1,rf.eq_2,rf.eq_3,rf.eq_4,cf.eq_1,cf.eq_2,cf.eq_3,gg.eq_1,gg.eq_2,content.eq_1,content.eq_2,content.eq_3,content.eq_4,content.eq_5,eG.eq_1,eG.eq_2,cX.eq_1,cX.eq_2,xn.eq_1,xn.eq_2,cZ.eq_1,cZ.eq_2,cZ.eq_3,cZ.eq_4,cZ.eq_5,cZ.eq_6,fw.eq_1,fw.eq_2,kJ.eq_1,kJ.go.eq_1,kJ.go.eq_2,df.eq_1,df.eq_2,fL.eq_1,fL.eq_2,eW.eq_1,eW.eq_2,cG.eq_1,cG.eq_2,cG.eq_3,dp.eq_1,dp.eq_2,cp.eq_1,cp.eq_2,bV.eq_1,bV.eq_2,dI.eq_1,dI.eq_2,dI.eq_3,da.eq_1,da.eq_2,fV.eq_1,fV.eq_2,dL.eq_1,dL.eq_2,cA.eq_1,cA.eq_2,cA.eq_3,cA.eq_4,cQ.eq_1,cQ.eq_2,cQ.eq_3,cQ.eq_4,cQ.eq_5,cQ.eq_6,cQ.eq_7,cQ.eq_8,cQ.eq_9,cQ.eq_10,cQ.eq_11,cQ.eq_12,cQ.eq_13,cQ.eq_14,cQ.eq_15,cQ.eq_16,cQ.eq_17,cQ.eq_18,cQ.eq_19,cQ.eq_20,cQ.eq_21,ew.eq_1,ew.eq_2,ew.eq_3,ew.eq_4,ew.eq_5,ew.eq_6,ew.eq_7,Fv.eq_1,Fv.eq_2,Fv.eq_3,Fv.eq_4,min2.eq_1,min2.eq_2,max2.eq_1,max2.eq_2,js.eq_1,js.eq_2,iZ.eq_1,iZ.eq_2,Aj.eq_1,Aj.eq_2,Aj.eq_3,Aj.eq_4,gk.eq_1,gk.eq_2,gk.eq_3,gp.eq_1,gp.eq_2,fu.eq_1,fu.eq_2,ev.eq_1,ev.eq_2,ym.eq_1,ym.eq_2,Aa.eq_1,Aa.eq_2,jA.eq_1,jA.eq_2,jA.eq_3,dF.eq_1,dF.eq_2,leave.eq_1,distinct.eq_1,distinct.eq_2,fin.eq_1,fin.eq_2,fin.eq_3,aF.eq_1,aF.eq_2,aF.eq_3,aF.eq_4,aF.eq_5,aF.eq_6,aF.eq_7,aF.eq_8,aF.eq_9,aF.eq_10,aF.eq_11,aF.eq_12,aF.eq_13,aF.eq_14,aF.eq_15,aF.eq_16,aF.eq_17,aF.eq_18,aF.eq_19,aF.eq_20,aF.eq_21,aF.eq_23,aF.eq_24,aF.eq_26,aF.eq_27,aF.eq_28,aF.eq_29,aF.eq_30,aF.eq_31,aF.eq_32,aF.eq_34,aF.eq_35,aF.eq_36,aF.eq_37,aF.eq_38,sh.eq_1,apart,dg.eq_1,dg.eq_2,dB.eq_1,dB.eq_2,dB.eq_3,gJ.eq_1,gJ.eq_2,List.map_nil,List.map_cons,List.all_nil,List.all_cons,List.contains_nil,List.contains_cons,lr.eq_1,lr.eq_2,Option.isSome_some,Option.isSome_none,Option.isNone_none,Option.isNone_some,tD,BU,bne_self_eq_false,Bool.bne_true,Bool.bne_false,Bool.true_bne,Bool.false_bne,nL,List.isEmpty_cons,List.isEmpty_nil,eq_self,List.replicate_succ,List.replicate_zero,vn,Int.cast_ofNat_Int,Int.reduceToNat,Int.toNat_zero,Int.toNat_one,Int.reduceAdd,Int.reduceSub,Int.reduceMul,Int.reduceNeg,Int.reduceLE,Int.reduceLT,Int.reduceEq,Int.neg_ofNat_le_ofNat,Int.natCast_nonneg,Int.toNat_natCast,Int.toNat_natCast_add_one,Int.ofNat_lt,wrap64,Int.le_refl,e20,acA,H5,hzb,YD,Ae,Kv (show ([]:List V).all (aZ · sz)=true from rfl),Nat.zero_le,overwrite]
       exact⟨1,rfl,rfl⟩
     · have Am: ¬xs.length≤0:=by
        intro h;exact hx (List.eq_nil_of_length_eq_zero (by omega))
       simp only[xG,nF,tu,tw,xF,qB,qC,tA,tj,xE,tB,xH,eM,jQ,qD,nK,aF.mh,yd,ye,yf,tg,th,yg,BR,tn,ph,tq,pg,tk,yh,BS,aZ,V.dX,V.aj,V.ae,V.isScalar,V.bS,yk,iK,nH,lq,vm,Kt,Ku,Ft,Fu,yj,vl,cb,andThen,yi,jZ,jO,Kw,fj,iE.mk.injEq,V.int.injEq,V.tuple.injEq,List.cons.injEq,V.bool.injEq,V.str.injEq,V.agg.injEq,List.getD_cons_zero,List.getD_cons_succ,List.getD_nil,List.length_cons,List.length_nil,List.getElem?_cons_zero,List.getElem?_cons_succ,List.set_cons_zero,List.set_cons_succ,List.take_succ_cons,List.take_zero,List.drop_succ_cons,List.drop_zero,List.take_nil,List.drop_nil,List.cons_append,List.nil_append,List.append_nil,Nat.zero_add,Nat.add_zero,Nat.reduceAdd,Nat.reduceSub,Nat.reduceMul,Nat.reduceEqDiff,Nat.reduceLT,Nat.reduceLeDiff,Nat.reduceBEq,BEq.rfl,Bool.true_or,Bool.or_true,Bool.false_or,Bool.or_false,Bool.and_true,Bool.true_and,Bool.and_false,Bool.false_and,Bool.and_self,Bool.or_self,Bool.false_eq_true,Bool.true_eq_false,Bool.not_true,Bool.not_false,Nat.lt_add_one,Nat.le_refl,decide_true,decide_false,decide_eq_true_eq,if_true,if_false,↓reduceIte,true_and,and_true,and_self,false_and,and_false,reduceCtorEq,Nat.sub_zero,Option.some.injEq,Nat.zero_lt_one,Nat.lt_irrefl,ne_eq,not_true_eq_false,not_false_eq_true,V.cells.eq_1,V.cells.eq_2,V.isAgg.eq_1,V.isAgg.eq_2,V.aV.eq_1,V.aV.eq_2,V.aV.eq_3,V.aV.eq_4,V.aV.eq_5,V.aV.eq_6,V.aV.eq_7,V.isTuple.eq_1,V.isTuple.eq_2,AM.part.eq_1,AM.part.eq_2,AM.part.eq_3,AM.part.eq_4,AM.dY.eq_1,AM.dY.eq_2,AM.dY.eq_3,AM.dY.eq_4,rf.eq_1,rf.eq_2,rf.eq_3,rf.eq_4,cf.eq_1,cf.eq_2,cf.eq_3,gg.eq_1,gg.eq_2,content.eq_1,content.eq_2,content.eq_3,content.eq_4,content.eq_5,eG.eq_1,eG.eq_2,cX.eq_1,cX.eq_2,xn.eq_1,xn.eq_2,cZ.eq_1,cZ.eq_2,cZ.eq_3,cZ.eq_4,cZ.eq_5,cZ.eq_6,fw.eq_1,fw.eq_2,kJ.eq_1,kJ.go.eq_1,kJ.go.eq_2,df.eq_1,df.eq_2,fL.eq_1,fL.eq_2,eW.eq_1,eW.eq_2,cG.eq_1,cG.eq_2,cG.eq_3,dp.eq_1,dp.eq_2,cp.eq_1,cp.eq_2,bV.eq_1,bV.eq_2,dI.eq_1,dI.eq_2,dI.eq_3,da.eq_1,da.eq_2,fV.eq_1,fV.eq_2,dL.eq_1,dL.eq_2,cA.eq_1,cA.eq_2,cA.eq_3,cA.eq_4,cQ.eq_1,cQ.eq_2,cQ.eq_3,cQ.eq_4,cQ.eq_5,cQ.eq_6,cQ.eq_7,cQ.eq_8,cQ.eq_9,cQ.eq_10,cQ.eq_11,cQ.eq_12,cQ.eq_13,cQ.eq_14,cQ.eq_15,cQ.eq_16,cQ.eq_17,cQ.eq_18,cQ.eq_19,cQ.eq_20,cQ.eq_21,ew.eq_1,ew.eq_2,ew.eq_3,ew.eq_4,ew.eq_5,ew.eq_6,ew.eq_7,Fv.eq_1,Fv.eq_2,Fv.eq_3,Fv.eq_4,min2.eq_1,min2.eq_2,max2.eq_1,max2.eq_2,js.eq_1,js.eq_2,iZ.eq_1,iZ.eq_2,Aj.eq_1,Aj.eq_2,Aj.eq_3,Aj.eq_4,gk.eq_1,gk.eq_2,gk.eq_3,gp.eq_1,gp.eq_2,fu.eq_1,fu.eq_2,ev.eq_1,ev.eq_2,ym.eq_1,ym.eq_2,Aa.eq_1,Aa.eq_2,jA.eq_1,jA.eq_2,jA.eq_3,dF.eq_1,dF.eq_2,leave.eq_1,distinct.eq_1,distinct.eq_2,fin.eq_1,fin.eq_2,fin.eq_3,aF.eq_1,aF.eq_2,aF.eq_3,aF.eq_4,aF.eq_5,aF.eq_6,aF.eq_7,aF.eq_8,aF.eq_9,aF.eq_10,aF.eq_11,aF.eq_12,aF.eq_13,aF.eq_14,aF.eq_15,aF.eq_16,aF.eq_17,aF.eq_18,aF.eq_19,aF.eq_20,aF.eq_21,aF.eq_23,aF.eq_24,aF.eq_26,aF.eq_27,aF.eq_28,aF.eq_29,aF.eq_30,aF.eq_31,aF.eq_32,aF.eq_34,aF.eq_35,aF.eq_36,aF.eq_37,aF.eq_38,sh.eq_1,apart,dg.eq_1,dg.eq_2,dB.eq_1,dB.eq_2,dB.eq_3,gJ.eq_1,gJ.eq_2,List.map_nil,List.map_cons,List.all_nil,List.all_cons,List.contains_nil,List.contains_cons,lr.eq_1,lr.eq_2,Option.isSome_some,Option.isSome_none,Option.isNone_none,Option.isNone_some,tD,BU,bne_self_eq_false,Bool.bne_true,Bool.bne_false,Bool.true_bne,Bool.false_bne,nL,List.isEmpty_cons,List.isEmpty_nil,eq_self,List.replicate_succ,List.replicate_zero,vn,Int.cast_ofNat_Int,Int.reduceToNat,Int.toNat_zero,Int.toNat_one,Int.reduceAdd,Int.reduceSub,Int.reduceMul,Int.reduceNeg,Int.reduceLE,Int.reduceLT,Int.reduceEq,Int.neg_ofNat_le_ofNat,Int.natCast_nonneg,Int.toNat_natCast,Int.toNat_natCast_add_one,Int.ofNat_lt,wrap64,Int.le_refl,e20,acA,H5,hzb,YD,Ae,Kv GX.2,GX.1,Ap,Nat.zero_le,Am]
       exact⟨2,rfl,rfl⟩
   obtain⟨n,σ4,acB,g,hg1,XD⟩:=Q6
   rw[List.range_eq_range']
   refine fN (XH (Y:=⟨X,B,K⟩) oW n) (h:=({n:=fn.ntmps}:Hints)) (.none rfl rfl) rfl h3 MA.size 0 (by omega) HY (by rw[List.drop_zero,k3'];exact acB) fun a' w' kl=> ?_
   refine wpIn_ret ?_
   obtain⟨oV,_,φ,vf,oX⟩:=kl
   have mn:=vf.tmps 2
   rw[hg1] at mn
   exact acz a' w' σ4.O oV ⟨φ,oX,vf.bB,96,g,by omega,mn,XD⟩
end
end Go.AM
namespace Go.AM
open Go Go.RowKit Go.ChangeShapes Go.WideShapes
end Go.AM
namespace Go.AM
open Go Go.RowKit
section
variable (P:Program)
def we (e:TypeId) (ws:List V):V:=match P.underlying e with
 | some (.struct _) | some (.array ..)=> .agg ws
 | _=>ws.headD fj
def TVF (tv:TypeId→List V→Prop):List Field→List V→Prop
 | [],vs=>vs=[]
 | f::fs,vs=> ∃a b,vs=a++b∧a.length=P.cellsOf f.type∧tv f.type a∧TVF tv fs b
def TVA (tv:List V→Prop) (s:Nat):Nat→List V→Prop
 | 0,vs=>vs=[]
 | k+1,vs=> ∃a b,vs=a++b∧a.length=s∧tv a∧TVA tv s k b
def TV:Nat→TypeId→List V→Prop
 | 0,_,_=>False
 | n+1,t,vs=>match P.underlying t with
   | some .bool=> ∃b,vs=[.bool b]
   | some (.int k)=> ∃x,vs=[.int k x]∧(Lit.int k x).wf=true
   | some .string=> ∃s,vs=[.str s]∧s.length≤maxLen
   | some (.slice e)=>vs=[.nils]∨ ∃xs,vs=[.lit (P.cellsOf e) xs]∧xs.length≤maxLen∧ ∀x ∈ xs,∃ws,TV n e ws∧x=we P e ws
   | some (.struct fs)=>TVF P (TV n) fs.toList vs
   | some (.array k e)=>TVA (TV n e) (P.cellsOf e) k vs
   | _=>False
def qm:List Field→Nat→Option Nat
 | [],off=>some off
 | f::fs,off=>if f.offset=off then qm fs (off+P.cellsOf f.type) else none
def CT (S:List TypeId) (t:TypeId):Bool:=match P.underlying t with
 | some .bool| some (.int _) | some .string=>P.cellsOf t==1
 | some (.slice e)=>P.cellsOf t==1 &&decide (0 <P.cellsOf e) &&S.contains e
 | some (.struct fs)=> (qm P fs.toList 0==some (P.cellsOf t)) &&fs.toList.all fun f=>S.contains f.type
 | some (.array k e)=>S.contains e &&P.cellsOf t==k*P.cellsOf e
 | _=>false
end
section
variable {X:TrEnv} {H:Type} {enc:TypeId×Value→H} {w:World} {S:List TypeId} {base:Nat} {spare:Nat→Bool} {held:Bool}
abbrev still (w:World) (φ:Nat→Row):Mu:=⟨w,φ,fun _=>cb⟩
abbrev free (X:TrEnv):Ctx:=⟨X,fun _=>False,(0,0)⟩
def Good (X:TrEnv) (w:World) (n:Nat) (t:TypeId) (vs:List V) (cs:List Value):Prop:=
 TV X.P n t vs∧vs.all V.aV=true∧V.ae vs=true∧ ∀φ,ak (free X) (still w φ) vs cs
theorem ot: ∀ {a b:List V},V.ae (a++b)=(V.ae a &&V.ae b)
 | [],b=>by simp[V.ae]
 | x::a,b=>by simp[V.ae,ot (a:=a),Bool.and_assoc]
theorem xa {n:Nat}: ∀ {fs:List Field} {cs:List Value} {off total:Nat},qm X.P fs off=some total→cs.length=total→
   (∀f ∈ fs,∃vs,Good X w n f.type vs ((cs.drop f.offset).take (X.P.cellsOf f.type)))→
   ∃vs,TVF X.P (TV X.P n) fs vs∧vs.all V.aV=true∧V.ae vs=true∧ ∀φ,ak (free X) (still w φ) vs (cs.drop off)
 | [],cs,off,total,hc,hl,_=>by
   simp only[qm,Option.some.injEq] at hc
   subst hc
   refine⟨[],rfl,rfl,rfl,fun φ=> ?_⟩
   rw[List.drop_eq_nil_of_le (by omega)];simp[ak]
 | f::fs,cs,off,total,hc,hl,hf=>by
   simp only[qm] at hc
   split at hc
   · rename_i ho
     subst ho
     obtain⟨a,NG,ha2,ha3,YT⟩:=hf f (by simp)
     obtain⟨b,LG,PX,hb3,hb4⟩:=xa hc hl (fun g hg=>hf g (by simp[hg]))
     have hle:f.offset+X.P.cellsOf f.type≤total:=by
      clear NG ha2 ha3 YT LG PX hb3 hb4 hf
      have: ∀ (fs:List Field) (o tt:Nat),qm X.P fs o=some tt→o≤tt:=by
       intro fs
       induction fs with
       | nil=>intro o tt h;simp[qm] at h;omega
       | cons g gs ih=>
         intro o tt h
         simp only[qm] at h
         split at h
         · have:=ih _ _ h;omega
         · simp at h
      exact this _ _ _ hc
     have hal:a.length=X.P.cellsOf f.type:=by
      have:=(YT (fun _=> ⟨0,0,0⟩)).length
      rw[this];simp;omega
     refine⟨a++b,⟨a,b,rfl,hal,NG,LG⟩,by simp[ha2,PX],by rw[ot,ha3,hb3];rfl,fun φ=> ?_⟩
     have e:cs.drop f.offset=(cs.drop f.offset).take (X.P.cellsOf f.type)++cs.drop (f.offset+X.P.cellsOf f.type):=by
      rw[←List.drop_drop,List.take_append_drop]
     rw[e]
     exact ak.append (YT φ) (hb4 φ)
   · simp at hc
theorem zH {n:Nat} {e:TypeId}: ∀ (k:Nat) {cs:List Value} (j:Nat),cs.length=(j+k)*X.P.cellsOf e→
   (∀i,i<j+k→ ∃vs,Good X w n e vs ((cs.drop (i*X.P.cellsOf e)).take (X.P.cellsOf e)))→
   ∃vs,TVA (TV X.P n e) (X.P.cellsOf e) k vs∧vs.all V.aV=true∧V.ae vs=true∧ ∀φ,ak (free X) (still w φ) vs (cs.drop (j*X.P.cellsOf e))
 | 0,cs,j,hl,_=>by
   refine⟨[],rfl,rfl,rfl,fun φ=> ?_⟩
   rw[List.drop_eq_nil_of_le (by rw[hl];simp)];simp[ak]
 | k+1,cs,j,hl,hf=>by
   obtain⟨a,NG,ha2,ha3,YT⟩:=hf j (by omega)
   have e1:j+1+k=j+(k+1):=by omega
   obtain⟨b,LG,PX,hb3,hb4⟩:=zH k (cs:=cs) (j+1) (by rw[e1];exact hl) (fun i hi=>hf i (by omega))
   have hal:a.length=X.P.cellsOf e:=by
    have:=(YT (fun _=> ⟨0,0,0⟩)).length
    rw[this];simp
    rw[hl,←Nat.sub_mul]
    have:1≤j+(k+1) - j:=by omega
    exact Nat.min_eq_left (Nat.le_mul_of_pos_left _ this)
   refine⟨a++b,⟨a,b,rfl,hal,NG,LG⟩,by simp[ha2,PX],by rw[ot,ha3,hb3];rfl,fun φ=> ?_⟩
   have e:cs.drop (j*X.P.cellsOf e)=(cs.drop (j*X.P.cellsOf e)).take (X.P.cellsOf e)++cs.drop ((j+1)*X.P.cellsOf e):=by
    rw[Nat.add_mul,Nat.one_mul,←List.drop_drop,List.take_append_drop]
   rw[e]
   exact ak.append (YT φ) (hb4 φ)
theorem H6 {α:Type} {p:Nat→α→Prop}: ∀ (n:Nat),(∀i,i<n→ ∃x,p i x)→ ∃xs:List α,xs.length=n∧ ∀i x,xs[i]? =some x→p i x
 | 0,_=> ⟨[],rfl,by simp⟩
 | n+1,h=>by
   obtain⟨xs,h1,h2⟩:=H6 n (fun i hi=>h i (by omega))
   obtain⟨x,hx⟩:=h n (by omega)
   refine⟨xs++[x],by simp[h1],fun i y hy=> ?_⟩
   by_cases hi:i<xs.length
   · rw[List.getElem?_append_left hi] at hy;exact h2 i y hy
   · rw[List.getElem?_append_right (by omega)] at hy
     have:i - xs.length=0:=by
      have:=(List.getElem?_eq_some_iff.1 hy).1
      simp at this;omega
     rw[this] at hy
     simp at hy;subst hy
     have:i=n:=by omega
     subst this;exact hx
theorem trod_good (hS:S.all (CT X.P S)=true): ∀ (n:Nat) (t:TypeId) (cs:List Value) (x:DataW H×List MemPlace),t ∈ S→DataW.trod enc X.P w base spare held n t cs=some x→ ∃vs,Good X w n t vs cs:=by
 intro n
 induction n with
 | zero=>intro t cs x _ h;simp[DataW.trod] at h
 | succ n ih=>
   intro t cs x ht h
   have hp:=List.all_eq_true.1 hS t ht
   unfold CT at hp
   cases hu:X.P.underlying t with
   | none=>rw[hu] at hp;simp at hp
   | some desc=>
     rw[hu] at hp
     cases desc with
     | bool=>
       obtain⟨b,rfl,_⟩:=DataW.trod_bool hu h
       exact⟨[.bool b],by simp[TV,hu],rfl,rfl,fun φ=>by simp[ak,au]⟩
     | int k=>
       obtain⟨m,rfl,_,hw⟩:=DataW.trod_int hu h
       exact⟨[.int k m],by simp[TV,hu,hw],rfl,rfl,fun φ=>by simp[ak,au]⟩
     | string=>
       obtain⟨s,rfl,_,hm⟩:=DataW.trod_string hu h
       exact⟨[.str s.data.toList],by simp only[TV,hu];exact⟨_,rfl,by simpa using hm⟩,rfl,rfl,fun φ=>by simp only[ak,au];exact⟨⟨s,rfl,rfl⟩,trivial⟩⟩
     | slice e=>
       simp only[Bool.and_eq_true,decide_eq_true_eq] at hp
       obtain⟨⟨_,Am⟩,he⟩:=hp
       have he':e ∈ S:=by simpa using he
       rcases DataW.trod_slice hu h with⟨rfl,_⟩ | ⟨a,len,cap,elems,rest,m,hn,rfl,_,hb,hl,hm,hlen,qQ,_,_⟩
       · exact⟨[.nils],by simp[TV,hu],rfl,rfl,fun φ=>by simp only[ak,au];exact⟨⟨none,rfl⟩,trivial⟩⟩
       · obtain rfl:n=m:=by omega
         have each: ∀i,i<len→ ∃q:V×Value,(∃ws,TV X.P n e ws∧q.1=we X.P e ws)∧q.1.aj=true∧q.1.dX=true∧(∀φ,au (free X) (still w φ) q.1 q.2)∧
             q.2.cells.size=X.P.cellsOf e∧ ∀j c,q.2.cells[j]? =some c→w.cell? ((a.add (i*X.P.cellsOf e)).add j)=some c:=by
           intro i hi
           have h1:=qQ i hi
           rw[List.getElem?_eq_getElem (by omega)] at h1
           rw[Option.bind_eq_some_iff] at h1
           obtain⟨dC,hc,Af⟩:=h1
           obtain⟨_,rj,iO⟩:=World.cells?_some hc
           obtain⟨ws,g1,g2,g3,g4⟩:=ih e dC _ he' Af
           have sF:ws.length=dC.length:=(g4 (fun _=> ⟨0,0,0⟩)).length
           have mL: ∀ (v:Value),v.cells.toList=dC→v.cells.size=X.P.cellsOf e∧ ∀j c,v.cells[j]? =some c→w.cell? ((a.add (i*X.P.cellsOf e)).add j)=some c:=by
             intro v hv
             have hs:v.cells.size=dC.length:=by rw[←hv];simp
             refine⟨by rw[hs,rj],fun j c hj=> ?_⟩
             have YJ:dC[j]? =some c:=by rw[←hv];simpa using hj
             rw[iO j (by have:=(List.getElem?_eq_some_iff.1 YJ).1;omega)];exact YJ
           have Ju: (∃fs,X.P.underlying e=some (.struct fs))∨(∃k e',X.P.underlying e=some (.array k e'))∨we X.P e ws=ws.headD fj∧ws.length=1:=by
             have vR:=List.all_eq_true.1 hS e he'
             unfold CT at vR
             cases hue:X.P.underlying e with
             | none=>rw[hue] at vR;simp at vR
             | some d=>
               rw[hue] at vR
               cases d<;>simp at vR
               case struct fs=>exact .inl ⟨fs,rfl⟩
               case array k e'=>exact .inr (.inl ⟨k,e',rfl⟩)
               all_goals exact .inr (.inr ⟨by simp[we,hue],by simp_all⟩)
           have asAgg:we X.P e ws= .agg ws→ ∃q:V×Value,(∃ws,TV X.P n e ws∧q.1=we X.P e ws)∧q.1.aj=true∧q.1.dX=true∧(∀φ,au (free X) (still w φ) q.1 q.2)∧
               q.2.cells.size=X.P.cellsOf e∧ ∀j c,q.2.cells[j]? =some c→w.cell? ((a.add (i*X.P.cellsOf e)).add j)=some c:=by
             intro hmk
             refine⟨(we X.P e ws,.agg dC.toArray),⟨ws,g1,rfl⟩,?_,?_,fun φ=> ?_,mL _ (by simp[Value.cells])⟩
             · simp only[hmk,V.aj,g3]
             · simp[hmk,V.dX,V.isAgg]
             · simp only[hmk,au];exact⟨g2,_,rfl,by simpa using g4 φ⟩
           rcases Ju with⟨fs,hs⟩ | ⟨k,e',hs⟩ | ⟨hmk,h1⟩
           · exact asAgg (by simp[we,hs])
           · exact asAgg (by simp[we,hs])
           · match ws,h1,dC,sF,g1,g2,g3,g4,mL with
             | [x],_,[c],_,g1,g2,g3,g4,mL=>
               have g4': ∀φ,au (free X) (still w φ) x c:=fun φ=>by have:=g4 φ;simp only[ak] at this;exact this.1
               have g2':x.aV=true:=by simpa using g2
               refine⟨(x,c),⟨[x],g1,by simp[hmk]⟩,by simpa [V.ae] using g3,by simp[V.dX,g2'],g4',mL c ?_⟩
               rw[((g4' (fun _=> ⟨0,0,0⟩)).nZ g2').2]
         obtain⟨qs,q1,q2⟩:=H6 len each
         refine⟨[.lit (X.P.cellsOf e) (qs.map (·.1))],?_,rfl,rfl,fun φ=> ?_⟩
         · simp only[TV,hu]
           refine .inr ⟨_,rfl,by simp[q1];omega,fun x hx=> ?_⟩
           obtain⟨q,hq,rfl⟩:=List.mem_map.1 hx
           obtain⟨i,hi⟩:=List.mem_iff_getElem?.1 hq
           exact(q2 i q hi).1
         · simp only[  ak,au,and_true]
           refine⟨EO fun x hx=> ?_,?_,some a,cap,qs.map (·.2),by simp[q1],by simp[q1];omega,?_,?_⟩
           · obtain⟨q,hq,rfl⟩:=List.mem_map.1 hx
             obtain⟨i,hi⟩:=List.mem_iff_getElem?.1 hq
             exact(q2 i q hi).2.1
           · rw[List.all_eq_true]
             intro x hx
             obtain⟨q,hq,rfl⟩:=List.mem_map.1 hx
             obtain⟨i,hi⟩:=List.mem_iff_getElem?.1 hq
             exact(q2 i q hi).2.2.1
           · refine ak.y8 (by simp) fun i y u hy hu=> ?_
             rw[List.getElem?_map] at hy hu
             cases hq:qs[i]? with
             | none=>simp[hq] at hy
             | some q=>
               simp[hq] at hy hu
               subst hy hu
               exact(q2 i q hq).2.2.2.1 φ
           · cases qs with
             | nil=>exact .inl rfl
             | cons q0 qs=>
               right
               have rQ: ∀ (i:Nat) (q:V×Value),(q0::qs)[i]? =some q→ ∀j c,q.2.cells[j]? =some c→w.cell? ((a.add (i*X.P.cellsOf e)).add j)=some c:=fun i q hi=> (q2 i q hi).2.2.2.2.2
               have cJ: ∀ (i:Nat) (q:V×Value),(q0::qs)[i]? =some q→q.2.cells.size=X.P.cellsOf e:=fun i q hi=> (q2 i q hi).2.2.2.2.1
               have h0:=rQ 0 q0 rfl 0 (q0.2.cells[0]'(by rw[cJ 0 q0 rfl];exact Am)) (Array.getElem?_eq_getElem _)
               obtain⟨ab,ao,asp⟩:=a
               have se:asp=none∧ab<w.heap.size:=by
                 simp only[Nat.zero_mul,Addr.add,if_true,World.cell?] at h0
                 split at h0
                 ·  rename_i c T f hh
                    split at h0
                    · simp at h0
                    · rename_i hn
                      exact⟨by cases asp<;>simp_all,(Array.getElem?_eq_some_iff.1 hh).1⟩
                 · simp at h0
               obtain⟨rfl,bY⟩:=se
               refine⟨ab,ao,rfl,?_,bY,fun i v hv=> ?_⟩
               · rintro(⟨r,h1,_⟩ | h)
                 · simp[cb] at h1
                 · exact h
               · rw[  List.getElem?_map] at hv
                 cases hq: (q0::qs)[i]? with
                 | none=>simp[hq] at hv
                 |  some q=>
                    simp[hq] at hv
                    subst hv
                    refine⟨cJ i q hq,fun j c hc=> ?_⟩
                    have:=rQ i q hq j c hc
                    have Js: ∀o m,Addr.add ⟨ab,o,none⟩ m=⟨ab,o+m,none⟩:=by
                      intro o m
                      simp only[Addr.add]
                      split
                      · rename_i h0;subst h0;rfl
                      · rfl
                    rw[Js,Js] at this
                    exact this
     | struct fs=>
       simp only[Bool.and_eq_true,beq_iff_eq] at hp
       obtain⟨H5,en⟩:=hp
       obtain⟨xs,m,hm,_,hlen,Xi,hf⟩:=DataW.trod_struct hu h
       obtain rfl:n=m:=by omega
       have key: ∀f ∈ fs.toList,∃vs,Good X w n f.type vs ((cs.drop f.offset).take (X.P.cellsOf f.type)):=by
         intro f Dg
         obtain⟨i,hi⟩:=List.mem_iff_getElem?.1 Dg
         have gP:fs[i]? =some f:=by simpa using hi
         have h1:=hf i f gP
         have hil:i<xs.length:=by rw[Xi];exact(Array.getElem?_eq_some_iff.1 gP).1
         rw[List.getElem?_eq_getElem hil] at h1
         exact ih f.type _ _ (by have:=List.all_eq_true.1 en f Dg;simpa using this) h1
       obtain⟨vs,k1,k2,k3,k4⟩:=xa H5 hlen key
       exact⟨vs,by simp only[TV,hu];exact k1,k2,k3,fun φ=>by simpa using k4 φ⟩
     | array k e=>
       simp only[Bool.and_eq_true,beq_iff_eq] at hp
       obtain⟨he,cJ⟩:=hp
       obtain⟨xs,m,hm,_,hlen,Xi,hf⟩:=DataW.trod_array hu h
       obtain rfl:n=m:=by omega
       have key: ∀i,i< 0+k→ ∃vs,Good X w n e vs ((cs.drop (i*X.P.cellsOf e)).take (X.P.cellsOf e)):=by
         intro i hi
         have h1:=hf i (by omega)
         rw[List.getElem?_eq_getElem (by omega)] at h1
         exact ih e _ _ (by simpa using he) h1
       obtain⟨vs,k1,k2,k3,k4⟩:=zH k 0 (by rw[hlen,cJ];simp) key
       exact⟨vs,by simp only[TV,hu];exact k1,k2,k3,fun φ=>by simpa using k4 φ⟩
     | _=>simp at hp
where
 EO {cs:List V} (h: ∀x ∈ cs,V.aj x=true):V.ae cs=true:=by
  induction cs with
  | nil=>rfl
  | cons c cs ih=>simp only[V.ae,Bool.and_eq_true];exact⟨h c (by simp),ih fun x hx=>h x (by simp[hx])⟩
end
end Go.AM
namespace Go.AM
open Go Go.RowKit
def MB (X:TrEnv) (g:Nat) (af:aU):Prop:= ∃F fn h c,X.kh F=some g∧X.P.funcs[F]? =some fn∧(fn.name== "runtime.NumGoroutine")=false∧fn.body=some c∧aN X h fn=some af∧af.nparams≤fn.ntmps
def lU (X:TrEnv):List (Nat×aU)→Prop
 | []=>True
 | p::ps=>MB X p.1 p.2∧lU X ps
def H7 (X:TrEnv) (g:Nat) (fn:List V→Option iE):Prop:= ∃F,X.kh F=some g∧ ∀as res,fn as=some res→dA X F as res
def qn (X:TrEnv):List (Nat× (List V→Option iE))→Prop
 | []=>True
 | p::ps=>H7 X p.1 p.2∧qn X ps
theorem lU.mem {X:TrEnv}: ∀ {tab:List (Nat×aU)},lU X tab→ ∀p ∈ tab,MB X p.1 p.2
 | [],_,p,hp=>by simp at hp
 | q::qs,h,p,hp=>by
   rcases List.mem_cons.1 hp with rfl| hp
   · exact h.1
   · exact lU.mem h.2 p hp
theorem qn.mem {X:TrEnv}: ∀ {tab:List (Nat× (List V→Option iE))},qn X tab→ ∀p ∈ tab,H7 X p.1 p.2
 | [],_,p,hp=>by simp at hp
 | q::qs,h,p,hp=>by
   rcases List.mem_cons.1 hp with rfl| hp
   · exact h.1
   · exact qn.mem h.2 p hp
def H8 (X:TrEnv) (g:Nat) (h:Se):Prop:= ∃F,X.kh F=some g∧ ∀C:bO,(∀f F as res,X.kh F=some f→C f as=some res→dA X F as res)→ ∀as res,h.h C as=some res→dA X F as res
def wg (X:TrEnv):List (Nat×Se)→Prop
 | []=>True
 | p::ps=>H8 X p.1 p.2∧wg X ps
theorem wg.mem {X:TrEnv}: ∀ {tab:List (Nat×Se)},wg X tab→ ∀p ∈ tab,H8 X p.1 p.2
 | [],_,p,hp=>by simp at hp
 | q::qs,h,p,hp=>by
   rcases List.mem_cons.1 hp with rfl| hp
   · exact h.1
   · exact wg.mem h.2 p hp
def EP (X:TrEnv) (g:Nat) (it:List V→Option (List (List V))):Prop:= ∃F,X.kh F=some g∧ ∀caps xs,it caps=some xs→ ∀ (B:Nat→Prop) (K:Nat×Nat) (μ:Mu) (lb:Array Value),ak ⟨X,B,K⟩ μ caps lb.toList→bQ ⟨X,B,K⟩ μ→xS ⟨X,B,K⟩ μ F lb xs
def ou (X:TrEnv):List (Nat× (List V→Option (List (List V))))→Prop
 | []=>True
 | p::ps=>EP X p.1 p.2∧ou X ps
theorem ou.mem {X:TrEnv}: ∀ {tab:List (Nat× (List V→Option (List (List V))))},ou X tab→ ∀p ∈ tab,EP X p.1 p.2
 | [],_,p,hp=>by simp at hp
 | q::qs,h,p,hp=>by
   rcases List.mem_cons.1 hp with rfl| hp
   · exact h.1
   · exact ou.mem h.2 p hp
def jM:List Nat→Bool
 | []=>true
 | x::xs=> !xs.contains x &&jM xs
theorem mN: ∀ {l:List Nat},jM l=true→ ∀ {i j x:Nat},l[i]? =some x→l[j]? =some x→i=j
 | [],_,i,j,x,h,_=>by simp at h
 | y::l,hd,i,j,x,hi,hj=>by
   simp only[jM,Bool.and_eq_true,Bool.not_eq_true'] at hd
   have eP: ∀k:Nat,l[k]? =some y→False:=fun k hk=>by
     have:l.contains y=true:=by simpa using List.mem_of_getElem? hk
     rw[hd.1] at this;simp at this
   cases i with
   | zero=>
     cases j with
     | zero=>rfl
     | succ j=>simp at hi hj;subst hi;exact(eP j hj).elim
   | succ i=>
     cases j with
     | zero=>simp at hi hj;subst hj;exact(eP i hi).elim
     | succ j=>simp at hi hj;rw[mN hd.2 hi hj]
theorem zI {P:Program} {fl:List Nat} {tl:List (Nat×Nat)} (hf:jM fl=true) (ht:jM (tl.map (·.2))=true) (hm:P.follows .mixedOrders=true) {tab:List (Nat×aU)} {ext:List (Nat× (List V→Option iE))} {hyb:List (Nat×Se)} {iter:List (Nat× (List V→Option (List (List V))))}:
   let X:TrEnv:=⟨P,fun F=>fl[F]?,fun t=> (tl.find? (·.1==t)).map (·.2)⟩
   lU X tab→qn X ext→wg X hyb→ou X iter→wc X (Sg tab ext hyb iter):=by
 intro X h1 h2 h3 h4
 have xb: ∀F F' g,X.kh F=some g→X.kh F'=some g→F=F':=fun F F' g h h'=>mN hf h h'
 refine⟨fun t1 t2 k h h'=> ?_,hm,fun f af F h hF=> ?_,fun f as res F h hF=> ?_,fun g F caps xs h hF=> ?_,fun f g F h hF C hC as res hr=> ?_⟩
 · simp only[X,Option.map_eq_some_iff] at h h'
   obtain⟨p,hp,rfl⟩:=h
   obtain⟨q,hq,hqp⟩:=h'
   have e1:=List.find?_some hp
   have e2:=List.find?_some hq
   obtain⟨i,hi⟩:=List.mem_iff_getElem?.1 (List.mem_of_find?_eq_some hp)
   obtain⟨j,hj⟩:=List.mem_iff_getElem?.1 (List.mem_of_find?_eq_some hq)
   have:i=j:=mN ht (i:=i) (j:=j) (x:=p.2) (by simp[hi]) (by simp[hj,hqp])
   subst this
   rw[hi] at hj;injection hj with hj;subst hj
   simp at e1 e2;exact e1.symm.trans e2
 · simp only[Sg,Zk,Option.map_eq_some_iff] at h
   obtain⟨p,hp,rfl⟩:=h
   have e1:=List.find?_some hp
   simp at e1;subst e1
   obtain⟨F',fn,hh,c,k1,k2,k3,k4,k5,k6⟩:=lU.mem h1 p (List.mem_of_find?_eq_some hp)
   obtain rfl:=xb F F' _ hF k1
   exact⟨fn,hh,c,k2,k3,k4,k5,k6⟩
 · simp only[Sg,QU] at h
   split at h
   · rename_i p hp
     have e1:=List.find?_some hp
     simp at e1;subst e1
     obtain⟨F',k1,k2⟩:=qn.mem h2 p (List.mem_of_find?_eq_some hp)
     obtain rfl:=xb F F' _ hF k1
     exact k2 as res h
   · simp at h
 · simp only[Sg,Kx] at h
   split at h
   · rename_i p hp
     have e1:=List.find?_some hp
     simp at e1;subst e1
     obtain⟨F',k1,k2⟩:=ou.mem h4 p (List.mem_of_find?_eq_some hp)
     obtain rfl:=xb F F' _ hF k1
     exact k2 caps xs h
   · simp at h
 · simp only[Sg,GY,Option.map_eq_some_iff] at h
   obtain⟨p,hp,rfl⟩:=h
   have e1:=List.find?_some hp
   simp at e1;subst e1
   obtain⟨F',k1,k2⟩:=wg.mem h3 p (List.mem_of_find?_eq_some hp)
   obtain rfl:=xb F F' _ hF k1
   exact k2 C hC as res hr
theorem ER {μ μ':Mu} (h:Le μ μ') (eP: ∀b,¬μ.own b):Below μ.w.heap.size μ.w μ'.w:=
 ⟨h.os,h.tape,h.output,h.size,fun k hk=> (h.dq k hk (eP k)).1⟩
theorem JU {X:TrEnv} {E:Env} (hE:wc X E) {F g:Nat} (hF:X.kh F=some g) {fn:Func} (Ag:X.P.funcs[F]? =some fn) (uO: (fn.name== "runtime.NumGoroutine")=false) {cd:Code} (kH:fn.body=some cd)
   {args:List V} {b:Bool} (ei:Ev E g args ⟨.bool b,[]⟩) (hp:V.ae args=true) {w:World} {vals:List Value} (hv: ∀φ,ak (free X) (still w φ) args vals):
   Calls X.P F vals.toArray w fun e w'=>e= .returned (.bool b)∧Below w.heap.size w w'∧ ∀a,a.block<w.heap.size→w'.frozen? a=w.frozen? a:=by
 obtain⟨n,hn⟩:=ei
 have hs:dA X F args ⟨.bool b,[]⟩:=qk hE n g F args _ hF hn
 have hO: (enter args).O=fun _=>cb:=uP hp
 have hT: ∀ (t:Nat) (a:V),args[t]? =some a→(enter args).T t=a:=fun t a ha=>by rw[iF hp];simp[List.getD,ha]
 have Fm:=hv (fun _=> ⟨0,0,0⟩)
 have hU:=hs (fun _=>False) (0,0) w (fun _=> ⟨0,0,0⟩) vals Fm.length.symm (fun t v' Fk=>by
   have hl:t<args.length:=by rw[Fm.length];exact(List.getElem?_eq_some_iff.1 Fk).1
   obtain⟨u,hu,cK⟩:=Fm.get (List.getElem?_eq_getElem hl)
   rw[Fk] at hu;injection hu with hu;subst hu
   rw[hT t _ (List.getElem?_eq_getElem hl),hO];exact cK) (by
   rw[hO]
   exact⟨fun r es h=>by simp[cb] at h,fun r1 r2 _ h=>by simp[cb] at h,fun r h=>by simp[cb] at h,fun b h=>h.elim⟩)
 have XE: (callFunc F vals.toArray).run X.P w= .ok (.enter F vals.toArray) w:=by
   simp[callFunc,Sem.run_bind,program,Sem.run,Ag,kH]
   simpa using uO
 rw[XE] at hU
 simp only[CN] at hU
 refine Calls.mono hU fun e w' he=> ?_
 cases e with
 | panicked c=>exact he.elim
 | outgrown=>exact he.elim
 | returned val=>
   obtain⟨φ',T',O',v0,refs,k1,k2,k3,k4,k5,k6⟩:=he
   have eP: ∀b,¬ (Mu.mk w (fun _=> ⟨0,0,0⟩) (enter args).O).own b:=fun b=>by rw[hO];rintro⟨r,h,_⟩;simp[cb] at h
   refine⟨?_,ER k1 eP,k1.frozen⟩
   · have:=(k4.acs k2 k3).pure rfl
     simp only[au] at this
     rw[this]
end Go.AM
namespace Go.AM
open Ieee
theorem bi:double.binade=4503599627370496:=by simp[Format.binade,double]
end Go.AM
namespace Go.AM
open Go Go.RowKit
def aB.cD:aB→Bool
 | .seq a b=>a.cD &&b.cD
 | .cond _ a b=>a.cD &&b.cD
 | .block _ b=>b.cD
 | .scope b=>b.cD
 | .loop _| .keys .. | .pf .. =>false
 | _=>true
section
variable {X:Ctx} {E:Env} {n:Fp}
structure rk (X:Ctx) (n:Fp) (c:Code) (S:SS) (Q:bF→SS→Prop):Prop where
 h: ∀ (μ0:Mu) (σ:St) (a:Go.Act) (w:World),S.On σ→jo X μ0 n σ a w→
  c.wpIn (Fr n.ro) 0 X.P (fun ex a' w'=> ∃e S' σ',ex=bF.conv e∧S'.On σ'∧jo X μ0 n σ' a' w'∧Q e S') a w
structure Ht (X:Ctx) (E:Env):Prop where
 mixed:X.P.follows .mixedOrders=true
 iter:H2 X E
 op: ∀m,oO X E (eH E (exec E m))
theorem ef (hR:Ht X E) {h:Hints} {c:Code} {ac:aB} {S:SS} {Q:bF→SS→Prop} (hn:h.n=n.1) (hh:h.AY=[]∧h.full=[]) (hc:bA X h c=some ac) (hw:qK E ac S Q):rk X n c S Q:=by
 refine⟨fun μ0 σ a w ho hs=> ?_⟩
 obtain⟨k,e,σ',h1,S',h2,h3⟩:=di hw ho
 refine wpIn_mono (oi hR.mixed hR.iter k (fun m _=>hR.op m) hn c (.inl hh) ac σ σ' e a w hc h1 hs) fun ex a' w' ⟨hq,kl⟩=> ?_
 exact⟨e,S',σ',hq,h2,kl,h3⟩
theorem fv {x y:Code} {S:SS} {Q:bF→SS→Prop} (h:rk X n x S (thenS Q fun S'=>rk X n y S' Q)):rk X n (.seq x y) S Q:=by
 refine⟨fun μ0 σ a w ho hs=> ?_⟩
 refine wpIn_seq (wpIn_mono (h.h μ0 σ a w ho hs) fun ex a' w' ⟨e,S',σ',h1,h2,h3,h4⟩=> ?_)
 subst h1
 cases e with
 | normal=>exact h4.h μ0 σ' a' w' h2 h3
 | exit id=>exact⟨.exit id,S',σ',rfl,h2,h3,h4⟩
 | ret=>exact⟨.ret,S',σ',rfl,h2,h3,h4⟩
theorem AZ {id:Nat} {b:Code} {S:SS} {Q:bF→SS→Prop} (h:rk X n b S (IJ id Q)):rk X n (.block id b) S Q:=by
 refine⟨fun μ0 σ a w ho hs=> ?_⟩
 refine wpIn_block (wpIn_mono (h.h μ0 σ a w ho hs) fun ex a' w' ⟨e,S',σ',h1,h2,h3,h4⟩=> ?_)
 subst h1
 cases e with
 | normal=>exact⟨.normal,S',σ',rfl,h2,h3,h4⟩
 | ret=>exact⟨.ret,S',σ',rfl,h2,h3,h4⟩
 | exit kj=>
   simp only[bF.conv,Go.Exit.inBlock]
   by_cases he:kj=id
   · rw[if_pos he]
     subst he
     simp only[IJ,Nat.beq_refl,cond_true] at h4
     exact⟨.normal,S',σ',rfl,h2,h3,h4⟩
   · rw[if_neg he]
     have:Nat.beq kj id=false:=by
      cases hb:Nat.beq kj id with
      | false=>rfl
      | true=>exact absurd (Nat.eq_of_beq_eq_true hb) he
     simp only[IJ,this,cond_false] at h4
     exact⟨.exit kj,S',σ',rfl,h2,h3,h4⟩
theorem kf {c:Operand} {t:Nat} {x y:Code} {S:SS} {Q:bF→SS→Prop} {b:Bool} (hc:du X c=some (.tmp t)) (hb:lk S.T t=some (.bool b))
  (h1:b=true→rk X n x S Q) (h2:b=false→rk X n y S Q):rk X n (.cond c x y) S Q:=by
 refine⟨fun μ0 σ a w ho hs=> ?_⟩
 have ei:a.eval c= .bool b:=uG hs hc (by rw[jZ,ho.1 t _ hb])
 cases b with
 | true=>exact wpIn_cond_true ei ((h1 rfl).h μ0 σ a w ho hs)
 | false=>exact wpIn_cond_false ei ((h2 rfl).h μ0 σ a w ho hs)
theorem xO {c:Code} {S S0:SS} {Q:bF→SS→Prop} (hs:S0.Sub S) (h:rk X n c S0 Q):rk X n c S Q:=
 ⟨fun μ0 σ a w ho iI=>h.h μ0 σ a w (SS.Sub.on hs ho) iI⟩
theorem Lh {α:Type} {b:Code} {S:SS} {Q:bF→SS→Prop} (Sh:α→SS) (P:α→Prop) (μ:α→Nat) (a0:α) (hs: (Sh a0).Sub S) (h0:P a0)
  (step: ∀a,P a→rk X n b (Sh a) (pA Q Sh P μ a)):rk X n (.loop b) S Q:=by
 refine xO hs ?_
 refine⟨fun μ0 σ a w ho iI=> ?_⟩
 have key: ∀ (m:Nat) (x:α),μ x<m→P x→ ∀σ a w,(Sh x).On σ→jo X μ0 n σ a w→Code.roundsIn (Fr n.ro) 0 X.P b (fun ex a' w'=> ∃e S' σ',ex=bF.conv e∧S'.On σ'∧jo X μ0 n σ' a' w'∧Q e S') m a w:=by
  intro m
  induction m with
  | zero=>intro x hx;omega
  | succ m ih=>
    intro x hx hp σ a w ho iI
    rw[roundsIn_succ]
    refine wpIn_mono ((step x hp).h μ0 σ a w ho iI) fun ex a' w' ⟨e,S',σ',h1,h2,h3,h4⟩=> ?_
    subst h1
    cases e with
    | normal=>
      obtain⟨y,k1,k2,k3⟩:=h4
      exact ih y (by omega) k2 σ' a' w' (SS.Sub.on k3 h2) h3
    | exit id=>exact⟨.exit id,S',σ',rfl,h2,h3,h4⟩
    | ret=>exact⟨.ret,S',σ',rfl,h2,h3,h4⟩
 exact wpIn_loop_rounds (μ a0+1) (key _ a0 (by omega) h0 σ a w ho iI)
structure T3 (X:TrEnv) (h:Hints) (hI hR:Nat→Nat→Hints) (c:Code) (ac:aB) (aI aR:Nat→Nat→aB):Prop where
 one:bA X h c=some ac
 two: ∀g N,bA X (hI g N) c=some (aI g N)
 three: ∀g N,bA X (hR g N) c=some (aR g N)
def aB.qo:aB→Bool
 | .seq (.keys ..) _=>true
 | _=>false
theorem lV {X:TrEnv} {h:Hints} {x y:Code} {a b:aB} (hk:b.qo=false) (hc:bA X h (.seq x y)=some (.seq a b)):bA X h x=some a∧bA X h y=some b:=by
 simp only[bA] at hc
 split at hc
 · rename_i ax ay h1 h2
   injection hc with hc
   rcases jI (h:=h) (x:=x) (y:=y) (ax:=ax) (ay:=ay) with he| ⟨_,_,_,_,_,_,_,_,_,_,_,_,_,_,_,_,_,_,_,_,_,_,_,_,_,_,_,_,_,_,_,_,_,_,_,_,_,_,_,he⟩
   · rw[he] at hc
     injection hc with e1 e2
     subst e1 e2
     exact⟨h1,h2⟩
   · rw[he] at hc
     injection hc with e1 e2
     subst e2
     simp[aB.qo] at hk
 · simp at hc
theorem JV {X:TrEnv} {h:Hints} {c:Code} {a b:aB} (hc:bA X h c=some (.seq a b)): ∃x y,c= .seq x y:=by
 cases c with
 | seq x y=>exact⟨x,y,rfl⟩
 | region id ops d=>cases d<;>simp[bA] at hc
 | _=>
   exfalso
   simp[bA] at hc
   try (repeat' split at hc) <;>simp at hc
theorem qp {X:TrEnv} {h:Hints} {c:Code} {id:Nat} {b:aB} (hc:bA X h c=some (.block id b)): ∃x,c= .block id x∧bA X h x=some b:=by
 cases c with
 | block kj x=>
   simp only[bA,Option.map_eq_some_iff] at hc
   obtain⟨b',h1,h2⟩:=hc
   injection h2 with e1 e2
   subst e1 e2
   exact⟨x,rfl,h1⟩
 | region id ops d=>cases d<;>simp[bA] at hc
 | seq x y=>
   exfalso
   simp only[bA] at hc
   split at hc
   · rename_i ax ay h1 h2
     injection hc with hc
     rcases jI (h:=h) (x:=x) (y:=y) (ax:=ax) (ay:=ay) with he| ⟨_,_,_,_,_,_,_,_,_,_,_,_,_,_,_,_,_,_,_,_,_,_,_,_,_,_,_,_,_,_,_,_,_,_,_,_,_,_,_,he⟩ <;> (rw[he] at hc;cases hc)
   · simp at hc
 | _=>
   exfalso
   simp[bA] at hc
   try (repeat' split at hc) <;>simp at hc
theorem sO {X:TrEnv} {h:Hints} {c:Code} {b:aB} (hc:bA X h c=some (.loop b)): ∃x,c= .loop x∧bA X h x=some b:=by
 cases c with
 | loop x=>
   simp only[bA,Option.map_eq_some_iff] at hc
   obtain⟨b',h1,h2⟩:=hc
   injection h2 with e1
   subst e1
   exact⟨x,rfl,h1⟩
 | region id ops d=>cases d<;>simp[bA] at hc
 | seq x y=>
   exfalso
   simp only[bA] at hc
   split at hc
   · rename_i ax ay h1 h2
     injection hc with hc
     rcases jI (h:=h) (x:=x) (y:=y) (ax:=ax) (ay:=ay) with he| ⟨_,_,_,_,_,_,_,_,_,_,_,_,_,_,_,_,_,_,_,_,_,_,_,_,_,_,_,_,_,_,_,_,_,_,_,_,_,_,_,he⟩ <;> (rw[he] at hc;cases hc)
   · simp at hc
 | _=>
   exfalso
   simp[bA] at hc
   try (repeat' split at hc) <;>simp at hc
theorem sP {X:TrEnv} {h:Hints} {c:Code} {o:bg} {a b:aB} (hc:bA X h c=some (.cond o a b)): ∃c0 x y,c= .cond c0 x y∧du X c0=some o∧bA X h x=some a∧bA X h y=some b:=by
 cases c with
 | cond c0 x y=>
   simp only[bA] at hc
   split at hc
   · rename_i o' a' b' h1 h2 h3
     simp only[Option.some.injEq,aB.cond.injEq] at hc
     obtain⟨rfl,rfl,rfl⟩:=hc
     exact⟨c0,x,y,rfl,h1,h2,h3⟩
   · simp at hc
 | region id ops d=>cases d<;>simp[bA] at hc
 | seq x y=>
   exfalso
   simp only[bA] at hc
   split at hc
   · rename_i ax ay h1 h2
     injection hc with hc
     rcases jI (h:=h) (x:=x) (y:=y) (ax:=ax) (ay:=ay) with he| ⟨_,_,_,_,_,_,_,_,_,_,_,_,_,_,_,_,_,_,_,_,_,_,_,_,_,_,_,_,_,_,_,_,_,_,_,_,_,_,_,he⟩ <;> (rw[he] at hc;cases hc)
   · simp at hc
 | _=>
   exfalso
   simp[bA] at hc
   try (repeat' split at hc) <;>simp at hc
section
variable {X:TrEnv} {h:Hints} {hI hJ:Nat→Nat→Hints} {c:Code}
theorem T3.seq {a b:aB} {aI bI aJ bJ:Nat→Nat→aB} (t:T3 X h hI hJ c (.seq a b) (fun g N=> .seq (aI g N) (bI g N)) (fun g N=> .seq (aJ g N) (bJ g N)))
  (k1:b.qo=false) (k2: ∀g N,(bI g N).qo=false) (k3: ∀g N,(bJ g N).qo=false): ∃x y,c= .seq x y∧T3 X h hI hJ x a aI aJ∧T3 X h hI hJ y b bI bJ:=by
 obtain⟨x,y,rfl⟩:=JV t.one
 have h1:=lV k1 t.one
 exact⟨x,y,rfl,⟨h1.1,fun g N=> (lV (k2 g N) (t.two g N)).1,fun g N=> (lV (k3 g N) (t.three g N)).1⟩,
  ⟨h1.2,fun g N=> (lV (k2 g N) (t.two g N)).2,fun g N=> (lV (k3 g N) (t.three g N)).2⟩⟩
theorem T3.block {id:Nat} {b:aB} {bI bJ:Nat→Nat→aB} (t:T3 X h hI hJ c (.block id b) (fun g N=> .block id (bI g N)) (fun g N=> .block id (bJ g N))): ∃x,c= .block id x∧T3 X h hI hJ x b bI bJ:=by
 obtain⟨x,rfl,h1⟩:=qp t.one
 refine⟨x,rfl,h1,fun g N=> ?_,fun g N=> ?_⟩
 · obtain⟨y,e,h2⟩:=qp (t.two g N)
   injection e with _ e;subst e;exact h2
 · obtain⟨y,e,h2⟩:=qp (t.three g N)
   injection e with _ e;subst e;exact h2
theorem T3.loop {b:aB} {bI bJ:Nat→Nat→aB} (t:T3 X h hI hJ c (.loop b) (fun g N=> .loop (bI g N)) (fun g N=> .loop (bJ g N))): ∃x,c= .loop x∧T3 X h hI hJ x b bI bJ:=by
 obtain⟨x,rfl,h1⟩:=sO t.one
 refine⟨x,rfl,h1,fun g N=> ?_,fun g N=> ?_⟩
 · obtain⟨y,e,h2⟩:=sO (t.two g N)
   injection e with e;subst e;exact h2
 · obtain⟨y,e,h2⟩:=sO (t.three g N)
   injection e with e;subst e;exact h2
theorem T3.cond {o:bg} {a b:aB} {aI bI aJ bJ:Nat→Nat→aB} (t:T3 X h hI hJ c (.cond o a b) (fun g N=> .cond o (aI g N) (bI g N)) (fun g N=> .cond o (aJ g N) (bJ g N))):
  ∃c0 x y,c= .cond c0 x y∧du X c0=some o∧T3 X h hI hJ x a aI aJ∧T3 X h hI hJ y b bI bJ:=by
 obtain⟨c0,x,y,rfl,h0,h1,h2⟩:=sP t.one
 have k: ∀g N,bA X (hI g N) x=some (aI g N)∧bA X (hI g N) y=some (bI g N):=fun g N=>by
  obtain⟨_,_,_,e,_,q1,q2⟩:=sP (t.two g N)
  injection e with e1 e2 e3;subst e1 e2 e3;exact⟨q1,q2⟩
 have k': ∀g N,bA X (hJ g N) x=some (aJ g N)∧bA X (hJ g N) y=some (bJ g N):=fun g N=>by
  obtain⟨_,_,_,e,_,q1,q2⟩:=sP (t.three g N)
  injection e with e1 e2 e3;subst e1 e2 e3;exact⟨q1,q2⟩
 exact⟨c0,x,y,rfl,h0,⟨h1,fun g N=> (k g N).1,fun g N=> (k' g N).1⟩,⟨h2,fun g N=> (k g N).2,fun g N=> (k' g N).2⟩⟩
end
theorem JW {X:TrEnv} {h:Hints}: ∀ {c:Code} {ac:aB},bA X h c=some ac→ac.cD=true→cD c=true:=by
 intro c
 induction c with
 | seq x y ihx ihy=>
   intro ac hc hn
   simp only[bA] at hc
   split at hc
   · rename_i ax ay h1 h2
     injection hc with hc
     rcases jI (h:=h) (x:=x) (y:=y) (ax:=ax) (ay:=ay) with he| ⟨_,_,_,_,_,_,_,_,_,_,_,_,_,_,_,_,_,_,_,_,_,_,_,_,_,_,_,_,_,_,_,_,_,_,_,_,_,_,_,he⟩
     · rw[he] at hc
       subst hc
       simp only[aB.cD,Bool.and_eq_true] at hn
       simp only[cD,ihx h1 hn.1,ihy h2 hn.2,Bool.and_self]
     · rw[he] at hc
       subst hc
       simp[aB.cD] at hn
   · simp at hc
 | cond c0 x y ihx ihy=>
   intro ac hc hn
   simp only[bA] at hc
   split at hc
   · rename_i o a b h1 h2 h3
     injection hc with hc
     subst hc
     simp only[aB.cD,Bool.and_eq_true] at hn
     simp only[cD,ihx h2 hn.1,ihy h3 hn.2,Bool.and_self]
   · simp at hc
 | block id b ih=>
   intro ac hc hn
   simp only[bA,Option.map_eq_some_iff] at hc
   obtain⟨b',h1,rfl⟩:=hc
   exact ih h1 hn
 | scope b ih=>
   intro ac hc hn
   simp only[bA,Option.map_eq_some_iff] at hc
   obtain⟨b',h1,rfl⟩:=hc
   exact ih h1 hn
 | loop b ih=>
   intro ac hc hn
   simp only[bA,Option.map_eq_some_iff] at hc
   obtain⟨b',h1,rfl⟩:=hc
   simp[aB.cD] at hn
 | rangeFunc f ps a b iha MC=>
   intro ac hc hn
   simp only[bA] at hc
   split at hc
   · split at hc
     · injection hc with hc
       subst hc
       simp[aB.cD] at hn
     · simp at hc
   · simp at hc
 | _=>intro ac hc hn;rfl
theorem DU (hR:Ht X E) {h:Hints} {hI hJ:Nat→Nat→Hints} {c:Code} {ac:aB} {aI aJ:Nat→Nat→aB} {S:SS} {Q:bF→SS→Prop} {d m r g sz:Nat} {L:List V} (t:T3 X.toTrEnv h hI hJ c ac aI aJ)
   (cJ:0 <sz) (hO:lk S.O r=some ⟨g,sz,true,false,some L⟩) (hl:ac.cD=true)
   (nI: ∀N,(hI g N).n=n.1∧(hI g N).AY=[(d,r,g,N)]∧(hI g N).full=[]) (nJ: ∀N,(hJ g N).n=n.1∧(hJ g N).AY=[]∧(hJ g N).full=[(d,m,r,g,N)])
   (wI:qK E (aI g (L.length+1)) S Q) (wJ:qK E (aJ g L.length) S Q):rk X n c S Q:=by
 refine⟨fun μ0 σ a w ho ⟨jr,hs,φ,hr,hle⟩=> ?_⟩
 have hOr:=ho.2 r _ hO
 have bX: (Mu.mk w φ σ.O).O r=⟨g,sz,true,false,some L⟩:=hOr
 obtain⟨_,q2,_,_⟩:=hr.bB.row r L (by rw[bX]) (by rw[bX];exact cJ)
 have iI:jo X ⟨w,φ,σ.O⟩ n σ a w:=⟨jr,hs,φ,hr,Le.refl _⟩
 have back: ∀ {σ':St} {a':Go.Act} {w':World},jo X ⟨w,φ,σ.O⟩ n σ' a' w'→jo X μ0 n σ' a' w':=fun ⟨k1,k2,φ',k3,k4⟩=> ⟨k1,k2,φ',k3,hle.trans k4⟩
 have hnl:=JW t.one hl
 simp only at q2
 by_cases rL:L.length+1≤(φ r).cap
 · obtain⟨k,e,σ',h1,S',h2,h3⟩:=di wI ho
   obtain⟨n1,n2,n3⟩:=nI (L.length+1)
   have iO:gV (hI g (L.length+1)) ⟨w,φ,σ.O⟩:=by
    refine⟨fun d' r' g' N' hm=> ?_,fun d' m' r' g' N' hm=> ?_⟩
    · rw[n2] at hm
      simp only[List.mem_singleton,Prod.mk.injEq] at hm
      obtain⟨rfl,rfl,rfl,rfl⟩:=hm
      rw[bX]
      exact⟨Nat.le_refl _,fun _=>rL⟩
    · rw[n3] at hm;exact(List.not_mem_nil hm).elim
   refine wpIn_mono (oi hR.mixed hR.iter k (fun m _=>hR.op m) n1 c (.inr ⟨iO,hnl⟩) _ σ σ' e a w (t.two _ _) h1 iI) fun ex a' w' ⟨hq,kl⟩=> ?_
   exact⟨e,S',σ',hq,h2,back kl,h3⟩
 · obtain⟨k,e,σ',h1,S',h2,h3⟩:=di wJ ho
   obtain⟨n1,n2,n3⟩:=nJ L.length
   have iO:gV (hJ g L.length) ⟨w,φ,σ.O⟩:=by
    refine⟨fun d' r' g' N' hm=> ?_,fun d' m' r' g' N' hm=> ?_⟩
    · rw[n2] at hm;exact(List.not_mem_nil hm).elim
    · rw[n3] at hm
      simp only[List.mem_singleton,Prod.mk.injEq] at hm
      obtain⟨rfl,rfl,rfl,rfl,rfl⟩:=hm
      rw[bX]
      exact⟨Nat.le_refl _,fun _=>by simp only;omega⟩
   refine wpIn_mono (oi hR.mixed hR.iter k (fun m _=>hR.op m) n1 c (.inr ⟨iO,hnl⟩) _ σ σ' e a w (t.three _ _) h1 iI) fun ex a' w' ⟨hq,kl⟩=> ?_
   exact⟨e,S',σ',hq,h2,back kl,h3⟩
end
theorem GD {X:TrEnv} {F:FuncId} {fn:Func} {c:Code} {rs:List sf} (Ag:X.P.funcs[F]? =some fn) (uO: (fn.name== "runtime.NumGoroutine")=false) (kH:fn.body=some c) (hrs:jE X fn.results.toList=some rs)
   {args:List V} {res:iE} (hlen:args.length=fn.params.size+fn.nfree) (hle:fn.params.size+fn.nfree≤fn.ntmps)
   (acC: ∀ (B:Nat→Prop) (K:Nat×Nat) (l:Nat),rk ⟨X,B,K⟩ ⟨fn.ntmps,l,none⟩ c (yB args) (IL rs args (· =res))):dA X F args res:=by
 intro B K w φ0 vals De hv ho
 have XE: (callFunc F vals.toArray).run X.P w= .ok (.enter F vals.toArray) w:=by
   have GC: (fn.name== "runtime.NumGoroutine")=false:=uO
   simp[callFunc,Sem.run_bind,program,Sem.run,Ag,GC,kH]
   simpa using uO
 rw[XE]
 · have Cz:True:=trivial
   simp only[CN]
   refine(callsIn_wide (n:=0)).1 (callsIn_of_wp_marks (F:=Fr none) Ag kH trivial ?_ rfl)
   have cJ:vals.toArray.size≤fn.ntmps:=by simp[De,hlen];exact hle
   have iI:jo ⟨X,B,K⟩ ⟨w,φ0,(enter args).O⟩ ⟨fn.ntmps,w.heap.size,none⟩ (enter args) {tmps:=vals.toArray++Array.replicate (fn.ntmps - vals.toArray.size) undef,defers:=[]} w:=by
    refine⟨Marks.nil (Nat.le_refl _) (by simp),by simp at cJ ⊢;omega,φ0,⟨fun t=> ?_,ho⟩,Le.refl _⟩
    by_cases ht:t<vals.length
    · have e1: (vals.toArray++Array.replicate (fn.ntmps - vals.toArray.size) undef).getD t undef=vals[t]:=by
       simp[Array.getElem?_append,ht]
      rw[e1]
      exact hv t _ (List.getElem?_eq_getElem ht)
    · have e1: (vals.toArray++Array.replicate (fn.ntmps - vals.toArray.size) undef).getD t undef=undef:=by
       simp[Array.getElem?_append,ht,Array.getElem?_replicate]
       split<;>rfl
      have e2: (enter args).T t=fj:=by
       have:args[t]? =none:=List.getElem?_eq_none (by omega)
       simp[enter,this]
      rw[e1,e2]
      exact qV
   refine wpIn_mono ((acC B K w.heap.size).h _ _ _ w (AJ args) iI) fun ex a' w' hq=> ?_
   obtain⟨e,S',σ,rfl,hon,⟨jr,_,φ',hr,oX⟩,gT⟩:=hq
   obtain⟨he,hl⟩: (e= .normal∨e= .ret)∧leave ⟨0,0,[],rs,.skip,none⟩ args σ=some res:=by
    cases e with
    | exit id=>exact gT.elim
    | normal=>
      obtain⟨r0,k1,k2⟩:=nP (rs:=rs) (args:=args) (R:=(· =res)) hon gT
      exact⟨.inl rfl,by rw[k1,k2]⟩
    | ret=>
      obtain⟨r0,k1,k2⟩:=nP (rs:=rs) (args:=args) (R:=(· =res)) hon gT
      exact⟨.inr rfl,by rw[k1,k2]⟩
   obtain⟨vs,l1,l2,refs,l3,l4⟩:=Bw hl
   have fin:LeavesInM (Fr none) 0 X.P fn a'.tmps (fun
      | .returned val,w'=> ∃φ' T' O' v0 refs,Le ⟨w,φ0,(enter args).O⟩ ⟨w',φ',O'⟩∧bQ ⟨X,B,K⟩ ⟨w',φ',O'⟩∧au ⟨X,B,K⟩ ⟨w',φ',O'⟩ v0 val∧dP args.length ⟨T',O'⟩ v0 res.val refs∧distinct refs=true∧cA O' 0 args=some res.outs
      | _,_=>False) a'.defers .returning w':=by
    refine qj (fun w'=>Rel ⟨X,B,K⟩ σ.T a' ⟨w',φ',σ.O⟩∧Le ⟨w,φ0,(enter args).O⟩ ⟨w',φ',σ.O⟩) (fun w1 D h1 h2 ⟨hr,hle⟩=> ⟨⟨fun t=>au.dc (jH (μ:=⟨w1,φ',σ.O⟩) h2 rfl rfl) (hr.tmps t),vW hr.bB h2⟩,CL hle h1⟩) (fun w' ⟨hr,oX⟩=> ?_) jr ⟨hr,oX⟩
    obtain⟨Mx,r1,r2⟩:=sb hr hrs l1
    refine⟨_,r1,φ',σ.T,σ.O,_,refs,oX,hr.bB,?_,l4 _ rfl,l3,l2⟩
    match vs,Mx,r2 with
    | [],[],r2=>simp only[au];exact⟨_,rfl,by simpa using r2⟩
    | [v],[u],r2=>simp only[ak] at r2;exact r2.1
    | _::_::_,_::_::_,r2=>simp only[au];exact⟨_,rfl,by simpa using r2⟩
    | [],_::_,r2=>simp[ak] at r2
    | _::_,[],r2=>simp[ak] at r2
    | [_],_::_::_,r2=>simp[ak] at r2
    | _::_::_,[_],r2=>simp[ak] at r2
   rcases he with rfl| rfl
   · exact fin
   · exact fin
end Go.AM
