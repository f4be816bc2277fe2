/-
  Texts of the proof: AmCall2, AmCall3, AmCall4, AmCall5, AmCall6, AmCall7, AmCall8, AmCall9, AmTag, AmSound, AmExt, AmGlue, AmTrod, AmSeat, AmSqrt.
-/
import Derived.Test.YtjkmpppkkhbjkaaGreatOpsB
import Derived.Test.YtjkmpppkkhbjkaaGreatBase
import Derived.Laws.Externs
import Derived.Laws.Cover3
import GoSem.Extern.MathSqrt
import Derived.ProofKit
import Derived.ChangeSame
import Derived.ChangeArms
import Derived.OpenShut
import Derived.Deep.Slices
import Derived.Carry
set_option linter.unusedSimpArgs false
set_option linter.unusedVariables false
namespace Go.AM
open Go Go.RowKit
def yp (P:Program) (r:Result Next) (R:Value→World→Prop):Prop:=
 match r with
 | .ok (.value v) w'=>R v w'
 | .ok (.enter f args) w'=>Calls P f args w' fun| .returned v,C2=>R v C2| _,_=>False
 | _=>False
theorem yp.upon {P:Program} {r:Result Next} {R:Value→World→Prop} (h:yp P r R) {o:Oper} {a:Go.Act} {next:Go.Act→World→Prop} {Q:Go.Exit→Go.Act→World→Prop}
   (hn: ∀v w,R v w→next (a.put o.dst v) w):o.upon P a next Q r:=by
 unfold yp at h
 split at h
 · exact hn _ _ h
 · rw[Oper.upon_enter]
   refine Calls.mono h fun e w' he=> ?_
   cases e with
   | returned v=>exact hn _ _ he
   | panicked c=>exact he.elim
   | outgrown=>exact he.elim
 · exact h.elim
def V.gX:V→Bool
 | .own .. =>true
 | c=>c.aK
theorem qz {c:V} (h:c.aK=true):c.gX=true:=by cases c<;>simp_all[V.aK,V.gX]
inductive cR (n:Nat) (σ:St):V→V→List Nat→Prop
 | one {v0 v:V} {rs:List Nat} (h:cu n σ v0=some (v,rs)):cR n σ v0 v rs
 | many {vs vs':List V} {rs:List Nat} (h:b9 n σ vs=some (vs',rs)):cR n σ (.tuple vs) (.tuple vs') rs
def cH (X:TrEnv) (F:FuncId) (args:List V) (res:dk):Prop:=
 ∀ (B:Nat→Prop) (K:Nat×Nat) (w:World) (φ0:Nat→Row) (vals:List Value),vals.length=args.length→
  (∀t v,vals[t]? =some v→ak ⟨X,B,K⟩ ⟨w,φ0,(enter args).O⟩ ((enter args).T t) v)→bc ⟨X,B,K⟩ ⟨w,φ0,(enter args).O⟩→
  yp X.P ((callFunc F vals.toArray).run X.P w) fun val w'=> ∃φ' T' O' v0 refs,Le ⟨w,φ0,(enter args).O⟩ ⟨w',φ',O'⟩∧bc ⟨X,B,K⟩ ⟨w',φ',O'⟩∧
     ak ⟨X,B,K⟩ ⟨w',φ',O'⟩ v0 val∧cR args.length ⟨T',O'⟩ v0 res.val refs∧distinct refs=true∧bO O' 0 args=some res.outs
inductive Jv (Y:Ctx) (μ:Mu) (n:Nat):V→List Nat→Value→Prop
 | pure {c:V} {val:Value} (hp:c.aB=true) (h:ak Y μ c val):Jv Y μ n c [] val
 | sl {r g off len:Nat} {es:List V} {val:Value} (hr:r<n) (bl: (μ.O r).es=some es) (hg: (μ.O r).gen=g) (hl:off+len≤es.length) (h:ak Y μ (.sl r g off len) val):Jv Y μ n (.sl r g off len) [r] val
 | own {r g off len:Nat} {es:List V} {val:Value} (hr:n≤r) (bl: (μ.O r).es=some es) (fN: (μ.O r).fz=false) (hg: (μ.O r).gen=g) (hl:off+len≤es.length) (hp:V.aq (aJ es off len)=true)
    (h:ak Y μ (.sl r g off len) val):Jv Y μ n (.own (μ.O r).sz (aJ es off len)) [r] val
inductive vX (Y:Ctx) (μ:Mu) (n:Nat):List V→List Nat→List Value→Prop
 | nil:vX Y μ n [] [] []
 | cons {c:V} {rs rs':List Nat} {val:Value} {cs:List V} {vals:List Value} (h:Jv Y μ n c rs val) (hs:vX Y μ n cs rs' vals):vX Y μ n (c::cs) (rs++rs') (val::vals)
section
variable {Y:Ctx} {μ:Mu} {n:Nat}
theorem vX.length {cs:List V} {rs:List Nat} {vals:List Value} (h:vX Y μ n cs rs vals):cs.length=vals.length:=by
 induction h with
 | nil=>rfl
 | cons _ _ ih=>simp[ih]
theorem BW (ho:bc Y μ) {r g off len:Nat} {es:List V} {val:Value} (bl: (μ.O r).es=some es) (fN: (μ.O r).fz=true) (hg: (μ.O r).gen=g) (hl:off+len≤es.length)
   (hp:V.aq (aJ es off len)=true) (h:ak Y μ (.sl r g off len) val):ak Y μ (.lit (μ.O r).sz (aJ es off len)) val:=by
 simp only[ak] at h ⊢
 obtain⟨a,cap,rfl,hle,qK,bY⟩:=h
 obtain⟨a0,a1,a2⟩:=bY hg
 obtain⟨q1,q2,q3,q4⟩:=ho.row r es bl a0
 have lV: (aJ es off len).length=len:=by simp[aJ];omega
 have kx: (aJ es off len).all V.cJ=true:=by
   simp only[List.all_eq_true] at q3 ⊢
   exact fun x hx=> (bE (q3 x (List.mem_of_mem_drop (List.mem_of_mem_take hx)))).1
 by_cases yM:len=0
 · exact⟨hp,kx,a,cap,[],by rw[lV],by omega,by simp[aJ,yM,aj],.inl (by simpa using lV.trans yM)⟩
 · rcases q4 with q4| ⟨cc,TT,vs,p1,p2,p3,p4⟩
   · omega
   · refine⟨hp,kx,a,cap,(vs.drop off).take len,by rw[lV],by omega,aj.take _ (aj.drop _ p3),.inr ⟨_,_,a2.resolve_left (by omega),?_,(Array.getElem?_eq_some_iff.1 p1).1,(p4.drop off).take len⟩⟩
     rintro(⟨r',k1,k2,k3,k4⟩ | hb)
     · by_cases e:r'=r
       · subst e;rw[fN] at k2;simp at k2
       · exact ho.inj r' r e k1 (by simp[bl]) k3 (by omega) k4
     · exact ho.qJ r (by simp[bl]) (by omega) hb
theorem kF (ho:bc Y μ) {T:Nat→V} {c c':V} {rs:List Nat} {val:Value} (h:ak Y μ c val) (he:bH n ⟨T,μ.O⟩ c=some (c',rs)):Jv Y μ n c' rs val:=by
 unfold bH at he
 split at he
 · rename_i r g off len
   simp only at he
   split at he
   · rename_i es bl
     split at he
     · rename_i hc
       obtain⟨c1,c2,c3,c4⟩:=hc
       split at he
       · rename_i hr
         simp only[Option.some.injEq,Prod.mk.injEq] at he
         obtain⟨rfl,rfl⟩:=he
         exact .sl hr bl c1 c2 h
       · rename_i hr
         split at he
         · rename_i fN
           simp only[Option.some.injEq,Prod.mk.injEq] at he
           obtain⟨rfl,rfl⟩:=he
           exact .pure rfl (BW ho bl fN c1 c2 c4 h)
         · rename_i fN
           simp only[Option.some.injEq,Prod.mk.injEq] at he
           obtain⟨rfl,rfl⟩:=he
           exact .own (by omega) bl (by simpa using fN) c1 c2 c4 h
     · simp at he
   · simp at he
 · split at he
   · rename_i hp
     simp only[Option.some.injEq,Prod.mk.injEq] at he
     obtain⟨rfl,rfl⟩:=he
     exact .pure hp h
   · simp at he
theorem gi (ho:bc Y μ) {T:Nat→V}: ∀ {cs ct:List V} {rs:List Nat} {vals:List Value},aj Y μ cs vals→br n ⟨T,μ.O⟩ cs=some (ct,rs)→vX Y μ n ct rs vals
 | [],ct,rs,[],_,he=>by simp[br] at he;obtain⟨rfl,rfl⟩:=he;exact .nil
 | [],_,_,_::_,h,_=>by simp[aj] at h
 | _::_,_,_,[],h,_=>by simp[aj] at h
 | c::cs,ct,rs,v::vs,h,he=>by
   simp only[aj] at h
   simp only[br] at he
   split at he
   · rename_i c1 r1 NF MM h1 h2
     simp only[Option.some.injEq,Prod.mk.injEq] at he
     obtain⟨rfl,rfl⟩:=he
     exact .cons (kF ho h.1 h1) (gi ho h.2 h2)
   · simp at he
inductive Ek (Y:Ctx) (μ:Mu) (n:Nat):V→List Nat→Value→Prop
 | cell {c:V} {rs:List Nat} {val:Value} (h:Jv Y μ n c rs val):Ek Y μ n c rs val
 | agg {cs:List V} {rs:List Nat} {vals:Array Value} (hc:cs.all V.gX=true) (h:vX Y μ n cs rs vals.toList):Ek Y μ n (.agg cs) rs (.agg vals)
inductive qA (Y:Ctx) (μ:Mu) (n:Nat):List V→List Nat→List Value→Prop
 | nil:qA Y μ n [] [] []
 | cons {c:V} {rs rs':List Nat} {val:Value} {cs:List V} {vals:List Value} (h:Ek Y μ n c rs val) (hs:qA Y μ n cs rs' vals):qA Y μ n (c::cs) (rs++rs') (val::vals)
theorem qB {T:Nat→V} {O:Nat→Obj} {c c':V} {rs:List Nat} (he:bH n ⟨T,O⟩ c=some (c',rs)) (hc:c.aK=true):V.gX c'=true:=by
 unfold bH at he
 split at he
 · simp only at he
   split at he
   · split at he
     · split at he
       · simp only[Option.some.injEq,Prod.mk.injEq] at he
         obtain⟨rfl,rfl⟩:=he;rfl
       · split at he
         · simp only[Option.some.injEq,Prod.mk.injEq] at he
           obtain⟨rfl,rfl⟩:=he;rfl
         · simp only[Option.some.injEq,Prod.mk.injEq] at he
           obtain⟨rfl,rfl⟩:=he;rfl
     · simp at he
   · simp at he
 · split at he
   · simp only[Option.some.injEq,Prod.mk.injEq] at he
     obtain⟨rfl,rfl⟩:=he
     exact qz hc
   · simp at he
theorem ju {T:Nat→V} {O:Nat→Obj}: ∀ {cs ct:List V} {rs:List Nat},br n ⟨T,O⟩ cs=some (ct,rs)→cs.all V.aK=true→
   ct.all V.gX=true
 | [],ct,rs,he,_=>by simp[br] at he;obtain⟨rfl,rfl⟩:=he;rfl
 | c::cs,ct,rs,he,hc=>by
   simp only[List.all_cons,Bool.and_eq_true] at hc
   simp only[br] at he
   split at he
   · rename_i c1 r1 NF MM h1 h2
     simp only[Option.some.injEq,Prod.mk.injEq] at he
     obtain⟨rfl,rfl⟩:=he
     have i1:=qB h1 hc.1
     have i2:=ju h2 hc.2
     rw[List.all_cons,i2,Bool.and_true]
     exact i1
   · simp at he
theorem vX.bP {cs:List V} {rs:List Nat} {vals:List Value} (h:vX Y μ n cs rs vals) (hp:V.aq cs=true):aj Y μ cs vals∧rs=[]:=by
 induction h with
 | nil=>simp[aj]
 | cons h hs ih=>
   simp only[V.aq,Bool.and_eq_true] at hp
   obtain⟨i1,i2⟩:=ih hp.2
   cases h with
   | pure AU hv=>simp only[aj];exact⟨⟨hv,i1⟩,by simpa using i2⟩
   | sl=>simp[V.aB] at hp
   | own=>simp[V.aB] at hp
theorem ou (ho:bc Y μ) {T:Nat→V} {v v':V} {rs:List Nat} {val:Value} (h:ak Y μ v val) (he:cu n ⟨T,μ.O⟩ v=some (v',rs)):Ek Y μ n v' rs val:=by
 unfold cu at he
 split at he
 · rename_i hp
   simp only[Option.some.injEq,Prod.mk.injEq] at he
   obtain⟨rfl,rfl⟩:=he
   exact .cell (.pure hp h)
 · split at he
   · simp only[ak] at h
     obtain⟨h1,vs,rfl,h2⟩:=h
     split at he
     · rename_i ct rs' kI
       simp only[Option.some.injEq,Prod.mk.injEq] at he
       obtain⟨rfl,rfl⟩:=he
       exact .agg (ju kI h1) (gi ho h2 kI)
     · simp at he
   · simp only[ak] at h
     obtain⟨F,cv,rfl,h1,h2⟩:=h
     split at he
     · rename_i ct rs' kI
       split at he
       · rename_i hp
         simp only[Option.some.injEq,Prod.mk.injEq] at he
         obtain⟨rfl,rfl⟩:=he
         obtain⟨k1,k2⟩:=(gi ho h2 kI).bP hp
         subst k2
         refine .cell (.pure (by simpa [V.aB] using hp) ?_)
         simp only[ak]
         exact⟨F,cv,rfl,h1,k1⟩
       · simp at he
     · simp at he
   · exact .cell (kF ho h he)
theorem mQ (ho:bc Y μ) {T:Nat→V}: ∀ {cs ct:List V} {rs:List Nat} {vals:List Value},aj Y μ cs vals→b9 n ⟨T,μ.O⟩ cs=some (ct,rs)→qA Y μ n ct rs vals
 | [],ct,rs,[],_,he=>by simp[b9] at he;obtain⟨rfl,rfl⟩:=he;exact .nil
 | [],_,_,_::_,h,_=>by simp[aj] at h
 | _::_,_,_,[],h,_=>by simp[aj] at h
 | c::cs,ct,rs,v::vs,h,he=>by
   simp only[aj] at h
   simp only[b9] at he
   split at he
   · rename_i c1 r1 NF MM h1 h2
     simp only[Option.some.injEq,Prod.mk.injEq] at he
     obtain⟨rfl,rfl⟩:=he
     exact .cons (ou ho h.1 h1) (mQ ho h.2 h2)
   · simp at he
end
end Go.AM
namespace Go.AM
open Go Go.RowKit
def dQ (φ:Nat→Row) (ws:List df) (i:Nat):Row:=
 match ws with
 | []=> ⟨0,0,0⟩
 | w::ws=>if w.i=i then(match w.fresh with| none=>φ w.r| some _=> ⟨0,0,0⟩) else dQ φ ws i
inductive sr (X:Ctx) (μ:Mu) (r0 i:Nat) (rs:List Nat) (ws:List df):V→Value→Prop
 | plain {a:V} {v:Value} (hp:V.aB a=true) (hs:iw X μ rs a v):sr X μ r0 i rs ws a v
 | sl {r g off len:Nat} {es:List V} {v:Value} (hw: (⟨i,r,none⟩:df) ∈ ws) (bl: (μ.O r).es=some es) (fN: (μ.O r).fz=false) (b5: (μ.O r).gen=g) (kb:V.aq es=true)
    (gm:off+len≤es.length) (hv:ak X μ (.sl r g off len) v):sr X μ r0 i rs ws (.msl (μ.O r).sz es off len) v
 | ptr {r g idx off:Nat} {es:List V} {v:Value} (hw: (⟨i,r,none⟩:df) ∈ ws) (bl: (μ.O r).es=some es) (fN: (μ.O r).fz=false) (b5: (μ.O r).gen=g) (kb:V.aq es=true)
    (hv:ak X μ (.ptr r g idx off) v):sr X μ r0 i rs ws (.mptr (μ.O r).sz es idx off) v
 | fresh {sz:Nat} {v:Value} (hw: (⟨i,r0+i,some sz⟩:df) ∈ ws) (ck:0 <sz) (hv: ∃a,v= .slice a 0 0):sr X μ r0 i rs ws (.msl sz [] 0 0) v
section
variable {X:Ctx} {μ:Mu} {r0:Nat}
theorem sr.more {i:Nat} {rs rs':List Nat} {ws yL:List df} {a:V} {v:Value} (h:sr X μ r0 i rs ws a v) (h1: ∀r ∈ rs,r ∈ rs') (h2: ∀w ∈ ws,w ∈ yL):sr X μ r0 i rs' yL a v:=by
 cases h with
 | plain hp hs=>exact .plain hp (hs.more h1)
 | sl hw a b c d e f=>exact .sl (h2 _ hw) a b c d e f
 | ptr hw a b c d f=>exact .ptr (h2 _ hw) a b c d f
 | fresh hw a b=>exact .fresh (h2 _ hw) a b
theorem jr.at {i:Nat} {as:List V} {vs:List Value} {rs:List Nat} {ws:List df} (h:jr X μ r0 i as vs rs ws):
   as.length=vs.length∧(∀w ∈ ws,i≤w.i)∧(∀t a,as[t]? =some a→ ∃v,vs[t]? =some v∧sr X μ r0 (i+t) rs ws a v):=by
 induction h with
 | nil i=>simp
 | @plain i a v rs rs' as vs ws hp hs h ih=>
   obtain⟨i1,i2,i3⟩:=ih
   refine⟨by simp[i1],fun w hw=>by have:=i2 w hw;omega,fun t b hb=> ?_⟩
   cases t with
   | zero=>simp at hb;subst hb;exact⟨v,by simp,.plain hp (hs.more (by simp+contextual))⟩
   | succ t=>
     obtain⟨v',k1,k2⟩:=i3 t b (by simpa using hb)
     refine⟨v',by simpa using k1,?_⟩
     have e:i+(t+1)=i+1+t:=by omega
     rw[e];exact k2.more (by simp+contextual) (fun w hw=>hw)
 | @sl i r g off len es v rs as vs ws bl fN b5 kb gm hv h ih=>
   obtain⟨i1,i2,i3⟩:=ih
   refine⟨by simp[i1],fun w hw=> ?_,fun t b hb=> ?_⟩
   · rcases List.mem_cons.1 hw with rfl| hw
     · exact Nat.le_refl _
     · have:=i2 w hw;omega
   · cases t with
     | zero=>simp at hb;subst hb;exact⟨v,by simp,.sl (by simp) bl fN b5 kb gm hv⟩
     | succ t=>
       obtain⟨v',k1,k2⟩:=i3 t b (by simpa using hb)
       refine⟨v',by simpa using k1,?_⟩
       have e:i+(t+1)=i+1+t:=by omega
       rw[e];exact k2.more (fun r hr=>hr) (fun w hw=>by simp[hw])
 | @ptr i r g idx off es v rs as vs ws bl fN b5 kb hv h ih=>
   obtain⟨i1,i2,i3⟩:=ih
   refine⟨by simp[i1],fun w hw=> ?_,fun t b hb=> ?_⟩
   · rcases List.mem_cons.1 hw with rfl| hw
     · exact Nat.le_refl _
     · have:=i2 w hw;omega
   · cases t with
     | zero=>simp at hb;subst hb;exact⟨v,by simp,.ptr (by simp) bl fN b5 kb hv⟩
     | succ t=>
       obtain⟨v',k1,k2⟩:=i3 t b (by simpa using hb)
       refine⟨v',by simpa using k1,?_⟩
       have e:i+(t+1)=i+1+t:=by omega
       rw[e];exact k2.more (fun r hr=>hr) (fun w hw=>by simp[hw])
 | @fresh i sz v rs as vs ws ck hv h ih=>
   obtain⟨i1,i2,i3⟩:=ih
   refine⟨by simp[i1],fun w hw=> ?_,fun t b hb=> ?_⟩
   · rcases List.mem_cons.1 hw with rfl| hw
     · exact Nat.le_refl _
     · have:=i2 w hw;omega
   · cases t with
     | zero=>simp at hb;subst hb;exact⟨v,by simp,.fresh (by simp) ck hv⟩
     | succ t=>
       obtain⟨v',k1,k2⟩:=i3 t b (by simpa using hb)
       refine⟨v',by simpa using k1,?_⟩
       have e:i+(t+1)=i+1+t:=by omega
       rw[e];exact k2.more (fun r hr=>hr) (fun w hw=>by simp[hw])
inductive E2:Nat→List df→Prop
 | nil (i:Nat):E2 i []
 | cons {i:Nat} {w:df} {ws:List df} (h:i≤w.i) (hs:E2 (w.i+1) ws):E2 i (w::ws)
theorem E2.le {i j:Nat} {ws:List df} (h:E2 j ws) (hij:i≤j):E2 i ws:=by
 cases h with
 | nil=>exact .nil _
 | cons h hs=>exact .cons (by omega) hs
theorem E2.mem {i:Nat} {ws:List df} (h:E2 i ws): ∀w ∈ ws,i≤w.i:=by
 induction h with
 | nil=>simp
 | cons h hs ih=>
   intro w hw
   rcases List.mem_cons.1 hw with rfl| hw
   · exact h
   · have:=ih w hw;omega
theorem jr.inc {i:Nat} {as:List V} {vs:List Value} {rs:List Nat} {ws:List df} (h:jr X μ r0 i as vs rs ws):E2 i ws:=by
 induction h with
 | nil i=>exact .nil i
 | plain hp hs h ih=>exact ih.le (by omega)
 | sl _ _ _ _ _ _ h ih=>exact .cons (by simp) ih
 | ptr _ _ _ _ _ h ih=>exact .cons (by simp) ih
 | fresh _ _ h ih=>exact .cons (by simp) ih
theorem gM {φ:Nat→Row} {i:Nat} {ws:List df} (h:E2 i ws): ∀w ∈ ws,dQ φ ws w.i=(match w.fresh with| none=>φ w.r| some _=> ⟨0,0,0⟩):=by
 induction h with
 | nil=>simp
 | @cons i w ws h hs ih=>
   intro w' hw
   rcases List.mem_cons.1 hw with rfl| hw
   · simp[dQ]
   · have:=hs.mem w' hw
     rw[dQ,if_neg (by omega)]
     exact ih w' hw
theorem E2.uniq {i:Nat} {ws:List df} (h:E2 i ws): ∀w ∈ ws,∀w' ∈ ws,w.i=w'.i→w=w':=by
 induction h with
 | nil=>simp
 | @cons i w ws h hs ih=>
   intro a ha b hb e
   rcases List.mem_cons.1 ha with ha| ha<;>rcases List.mem_cons.1 hb with hb| hb
   · rw[ha,hb]
   · have:=hs.mem b hb;subst ha;omega
   · have:=hs.mem a ha;subst hb;omega
   · exact ih a ha b hb e
theorem ov: ∀ {ws:List df},distinct (ws.map (·.r))=true→ ∀w ∈ ws,∀w' ∈ ws,w.r=w'.r→w=w'
 | [],_,_,h,_,_,_=>by simp at h
 | w::ws,hd,a,ha,b,hb,e=>by
   simp only[List.map_cons,distinct,Bool.and_eq_true,Bool.not_eq_true',List.contains_eq_mem,decide_eq_false_iff_not] at hd
   rcases List.mem_cons.1 ha with ha| ha<;>rcases List.mem_cons.1 hb with hb| hb
   · rw[ha,hb]
   · exact absurd (List.mem_map.2 ⟨b,hb,by rw[←e,ha]⟩) hd.1
   · exact absurd (List.mem_map.2 ⟨a,ha,by rw[e,hb]⟩) hd.1
   · exact ov hd.2 a ha b hb e
def cF (X:Ctx) (μ:Mu) (rs:List Nat) (ws:List df) (b:Nat):Prop:=
 X.KO b∨ ∃r,r ∉ rs∧r ∉ ws.map (·.r)∧(μ.O r).es.isSome=true∧(μ.O r).fz=false∧(μ.φ r).cap≠0∧(μ.φ r).cK=b
theorem iW {as:List V} {vals:List Value} {rs:List Nat} {ws:List df} (hp:jr X μ r0 0 as vals rs ws) (j:Nat):
   (enter as).O j=bB∨
   (∃r es,(⟨j,r,none⟩:df) ∈ ws∧(μ.O r).es=some es∧(μ.O r).fz=false∧V.aq es=true∧((enter as).O j).gen=0∧((enter as).O j).sz=(μ.O r).sz∧((enter as).O j).fz=false∧((enter as).O j).es=some es∧dQ μ.φ ws j=μ.φ r)∨
   (∃sz,(⟨j,r0+j,some sz⟩:df) ∈ ws∧0 <sz∧((enter as).O j).gen=0∧((enter as).O j).sz=sz∧((enter as).O j).fz=false∧((enter as).O j).es=some []∧dQ μ.φ ws j=⟨0,0,0⟩):=by
 obtain⟨hl,-,gv⟩:=hp.at
 have hi:=hp.inc
 cases ha:as[j]? with
 | none=>left;simp[enter,ha]
 | some a=>
   obtain⟨v,hv,hA⟩:=gv j a ha
   simp only[Nat.zero_add] at hA
   cases hA with
   | plain kb hs=>
     left
     cases a<;>simp[V.aB] at kb<;>simp[enter,ha]
   | @sl r g off len es v hw bl fN b5 kb gm yO=>
     right;left
     exact⟨r,es,hw,bl,fN,kb,by simp[enter,ha],by simp[enter,ha],by simp[enter,ha],by simp[enter,ha],by have:=gM (φ:=μ.φ) hi _ hw;simpa using this⟩
   | @ptr r g idx off es v hw bl fN b5 kb yO=>
     right;left
     exact⟨r,es,hw,bl,fN,kb,by simp[enter,ha],by simp[enter,ha],by simp[enter,ha],by simp[enter,ha],by have:=gM (φ:=μ.φ) hi _ hw;simpa using this⟩
   | @fresh sz v hw ck yO=>
     right;right
     exact⟨sz,hw,ck,by simp[enter,ha],by simp[enter,ha],by simp[enter,ha],by simp[enter,ha],by have:=gM (φ:=μ.φ) hi _ hw;simpa using this⟩
theorem rF {as:List V} {vals:List Value} {rs:List Nat} {ws:List df} (hp:jr X μ r0 0 as vals rs ws) {b:Nat} (h: (⟨μ.w,dQ μ.φ ws,(enter as).O⟩:Mu).own b):
   ∃i r,(⟨i,r,none⟩:df) ∈ ws∧(μ.O r).es.isSome=true∧(μ.O r).fz=false∧(μ.φ r).cap≠0∧(μ.φ r).cK=b:=by
 obtain⟨j,h1,h2,h3,h4⟩:=h
 simp only at h1 h2 h3 h4
 rcases iW hp j with h| ⟨r,es,k1,k2,k3,k4,k5,k6,k7,k8,k9⟩ | ⟨sz,k1,k2,k3,k4,k5,k6,k7⟩
 · rw[h] at h1;simp[bB] at h1
 · rw[k9] at h3 h4
   exact⟨j,r,k1,by simp[k2],k3,h3,h4⟩
 · rw[k7] at h3;simp at h3
theorem El {as:List V} {vals:List Value} {rs:List Nat} {ws:List df} (ho:bc X μ) (hp:jr X μ r0 0 as vals rs ws) (Em:apart rs (ws.map (·.r))=true) {b:Nat}
   (h:Own ⟨X.toTrEnv,cF X μ rs ws,X.tok⟩ ⟨μ.w,dQ μ.φ ws,(enter as).O⟩ b):
   Own X μ b∧ ∀r ∈ rs,(μ.O r).es.isSome=true→(μ.φ r).cap≠0→b≠(μ.φ r).cK:=by
 rcases h with h| h
 · obtain⟨i,r,h1,h2,h3,h4,h5⟩:=rF hp h
   refine⟨.inl ⟨r,h2,h3,h4,h5⟩,fun r' qM k1 k2 e=> ?_⟩
   have cO:r≠r':=by
     rintro rfl
     have:=List.all_eq_true.1 Em r (List.mem_map.2 ⟨_,h1,rfl⟩)
     simp[qM] at this
   exact ho.inj r r' cO h2 k1 h4 k2 (h5.trans e)
 · rcases h with h| ⟨r,h0,h1,h2,h3,h4,h5⟩
   · refine⟨.inr h,fun r' qM k1 k2 e=>ho.qJ r' k1 k2 (e ▸ h)⟩
   · refine⟨.inl ⟨r,h2,h3,h4,h5⟩,fun r' qM k1 k2 e=> ?_⟩
     have cO:r≠r':=fun e=>h0 (e ▸ qM)
     exact ho.inj r r' cO h2 k1 h4 k2 (h5.trans e)
theorem sx {as:List V} {vals:List Value} {rs:List Nat} {ws:List df} (ho:bc X μ) (hp:jr X μ r0 0 as vals rs ws) (Em:apart rs (ws.map (·.r))=true) (hd:distinct (ws.map (·.r))=true):
   vals.length=as.length∧(∀t v,vals[t]? =some v→ak ⟨X.toTrEnv,cF X μ rs ws,X.tok⟩ ⟨μ.w,dQ μ.φ ws,(enter as).O⟩ ((enter as).T t) v)∧
     bc ⟨X.toTrEnv,cF X μ rs ws,X.tok⟩ ⟨μ.w,dQ μ.φ ws,(enter as).O⟩:=by
 have fF:=fun b=>El (b:=b) ho hp Em
 obtain⟨hl,-,gv⟩:=hp.at
 have hi:=hp.inc
 refine⟨hl.symm,fun t v hv=> ?_,?_⟩
 · have ha:t<as.length:=by rw[hl];exact(List.getElem?_eq_some_iff.1 hv).1
   obtain⟨v',yc,hA⟩:=gv t as[t] (List.getElem?_eq_getElem ha)
   rw[hv] at yc;injection yc with yc;subst yc
   have Ae:as[t]? =some as[t]:=List.getElem?_eq_getElem ha
   simp only[Nat.zero_add] at hA
   generalize hae:as[t]=a at hA Ae
   cases hA with
   | plain kb hs=>
     have: (enter as).T t=a:=by cases a<;>simp[V.aB] at kb<;>simp[enter,Ae]
     rw[this]
     exact hs _ _ rfl fF
   | @sl r g off len es v hw bl fN b5 kb gm yO=>
     have e1: (enter as).T t= .sl t 0 off len:=by simp[enter,Ae]
     have e2: ((enter as).O t).gen=0∧((enter as).O t).sz=(μ.O r).sz:=by simp[enter,Ae]
     have e3:dQ μ.φ ws t=μ.φ r:=by have:=gM (φ:=μ.φ) hi _ hw;simpa using this
     rw[e1]
     simp only[ak] at yO ⊢
     obtain⟨a,cap,rfl,q1,q2,q3⟩:=yO
     refine⟨a,cap,rfl,q1,Nat.zero_le _,fun _=> ?_⟩
     rw[e2.2,e3];exact q3 b5
   | @ptr r g idx off es v hw bl fN b5 kb yO=>
     have e1: (enter as).T t= .ptr t 0 idx off:=by simp[enter,Ae]
     have e2: ((enter as).O t).gen=0∧((enter as).O t).sz=(μ.O r).sz:=by simp[enter,Ae]
     have e3:dQ μ.φ ws t=μ.φ r:=by have:=gM (φ:=μ.φ) hi _ hw;simpa using this
     rw[e1]
     simp only[ak] at yO ⊢
     obtain⟨a,rfl,q2,q3⟩:=yO
     refine⟨a,rfl,Nat.zero_le _,fun _=> ?_⟩
     rw[e2.2,e3];exact q3 b5
   | @fresh sz v hw ck yO=>
     have e1: (enter as).T t= .sl t 0 0 0:=by simp[enter,Ae]
     have e3:dQ μ.φ ws t=⟨0,0,0⟩:=by have:=gM (φ:=μ.φ) hi _ hw;simpa using this
     rw[e1]
     obtain⟨a,rfl⟩:=yO
     simp only[ak]
     exact⟨a,0,rfl,Nat.le_refl _,Nat.zero_le _,fun _=> ⟨by simp[enter,Ae,ck],by rw[e3],.inl rfl⟩⟩
 · refine⟨ fun j es bl=> ?_,fun j1 j2 cO h1 h2 h3 h4=> ?_,fun j h1 h2 hb=> ?_,fun b hb=> ?_⟩
   · rcases iW hp j with h| ⟨r,es',k1,k2,k3,k4,k5,k6,k7,k8,k9⟩ | ⟨sz,k1,k2,k3,k4,k5,k6,k7⟩
     · simp only[h,bB] at bl;simp at bl
     · simp only at bl
       rw[k8] at bl;injection bl with bl;subst bl
       rcases ho.ok r es' k2 with⟨q1,q2,q3,q4⟩ | ⟨m1,m2,ob,m3,m4⟩
       · refine .inl ?_
         unfold jN
         simp only[k6,k9]
         refine⟨q1,q2,q3,q4.imp id ?_⟩
         rintro⟨c,T,vs,p1,p2,p3,p4⟩
         exact⟨c,T,vs,p1,p2,bA (X:=X) (μ:=μ) (μ':=⟨μ.w,dQ μ.φ ws,(enter as).O⟩) rfl (fun b hb=> (fF b hb).1) k4 p3,p4⟩
       · refine .inr ?_
         unfold qj
         simp only[k6,k9]
         refine⟨m1,m2,ob,m3,?_⟩
         rcases m4 with⟨ents,clock,e1,e2,e3⟩ | m4| ⟨mo,since,nA,e1,e2,e3⟩
         · exact .inl ⟨ents,clock,e1,bA (X:=X) (μ:=μ) (μ':=⟨μ.w,dQ μ.φ ws,(enter as).O⟩) rfl (fun b hb=> (fF b hb).1) k4 e2,e3⟩
         · exact .inr (.inl m4)
         · subst e2
           refine .inr (.inr ⟨mo,since,nA,e1,rfl,e3.imp id ?_⟩)
           rintro⟨m,ents,l1,l2,l3,l4,l5,l6⟩
           exact⟨m,ents,l1,fun h=>l2 (fF m h).1,l3,l4,l5,bA (X:=X) (μ:=μ) (μ':=⟨μ.w,dQ μ.φ ws,(enter as).O⟩) rfl (fun b hb=> (fF b hb).1) (by simpa [V.aq,V.aB] using k4) l6⟩
     · simp only at bl
       rw[k6] at bl;injection bl with bl;subst bl
       refine .inl ?_
       unfold jN
       simp only[k4,k7]
       exact⟨k2,by simp,rfl,by simp⟩
   · simp only at h1 h2 h3 h4 ⊢
     rcases iW hp j1 with h| ⟨r,es',k1,k2,k3,k4,k5,k6,k7,k8,k9⟩ | ⟨sz,k1,k2,k3,k4,k5,k6,k7⟩
     · rw[h] at h1;simp[bB] at h1
     · rcases iW hp j2 with h| ⟨r',Xn,l1,l2,l3,l4,l5,l6,l7,l8,l9⟩ | ⟨sz,l1,l2,l3,l4,l5,l6,l7⟩
       · rw[h] at h2;simp[bB] at h2
       · rw[k9] at h3 ⊢
         rw[l9] at h4 ⊢
         refine ho.inj r r' (fun e=> ?_) (by simp[k2]) (by simp[l2]) h3 h4
         have:=ov hd _ k1 _ l1 e
         injection this with e1;exact cO e1
       · rw[l7] at h4;simp at h4
     · rw[k7] at h3;simp at h3
   · simp only at h1 h2 hb
     rcases iW hp j with h| ⟨r,es',k1,k2,k3,k4,k5,k6,k7,k8,k9⟩ | ⟨sz,k1,k2,k3,k4,k5,k6,k7⟩
     · rw[h] at h1;simp[bB] at h1
     · rw[k9] at h2 hb
       rcases hb with hb| ⟨r',g0,g1,g2,g3,g4,g5⟩
       · exact ho.qJ r (by simp[k2]) h2 hb
       · have cO:r'≠r:=fun e=>g1 (List.mem_map.2 ⟨_,k1,e.symm⟩)
         exact ho.inj r' r cO g2 (by simp[k2]) g4 h2 g5
     · rw[k7] at h2;simp at h2
   · rcases hb with hb| ⟨r',g0,g1,g2,g3,g4,g5⟩
     · exact ho.blt b hb
     · obtain⟨es',he⟩:=Option.isSome_iff_exists.1 g2
       rw[←g5];exact eJ.cK (ho.ok r' es' he) g4
end
end Go.AM
namespace Go.AM
open Go Go.RowKit
section
variable {X X':Ctx} {μ μ':Mu}
mutual
theorem weaken (hX:X'.toTrEnv=X.toTrEnv) (hk:X'.tok=X.tok) (hw:μ'.w=μ.w) (hφ:μ'.φ=μ.φ) (hO: ∀r,(μ'.O r).gen=(μ.O r).gen∧(μ'.O r).sz=(μ.O r).sz) (ho: ∀b,Own X' μ' b→Own X μ b): ∀ {x:V} {v:Value},ak X μ x v→ak X' μ' x v
 | .bool _,_,h| .int ..,_,h| .float _,_,h| .str _,_,h| .nilp,_,h| .nilfn,_,h| .nili,_,h| .nils,_,h=>by simpa [ak] using h
 | .any,_,_=>by simp[ak]
 | .own ..,_,h| .msl ..,_,h| .mptr ..,_,h=>by simp[ak] at h
 | .agg cs,_,h=>by
   simp only[ak] at h ⊢
   obtain⟨h1,vs,rfl,h2⟩:=h
   exact⟨h1,vs,rfl,jS hX hk hw hφ hO ho h2⟩
 | .tuple cs,_,h=>by
   simp only[ak] at h ⊢
   obtain⟨vs,rfl,h2⟩:=h
   exact⟨vs,rfl,jS hX hk hw hφ hO ho h2⟩
 | .bfn f cs,_,h=>by
   simp only[ak] at h ⊢
   obtain⟨F,cv,rfl,h1,h2⟩:=h
   exact⟨F,cv,rfl,by rw[hX];exact h1,jS hX hk hw hφ hO ho h2⟩
 | .fn f cs,_,h=>by
   simp only[ak] at h ⊢
   obtain⟨F,cv,rfl,h1,h2⟩:=h
   exact⟨F,cv,rfl,by rw[hX];exact h1,jS hX hk hw hφ hO ho h2⟩
 | .iface t x,_,h=>by
   simp only[ak] at h ⊢
   obtain⟨F,y,rfl,h1,h2⟩:=h
   exact⟨F,y,rfl,by rw[hX];exact h1,weaken hX hk hw hφ hO ho h2⟩
 | .lit sz xs,_,h=>by
   simp only[ak] at h ⊢
   obtain⟨h0,jC,a,cap,vs,rfl,h1,h2,h3⟩:=h
   refine⟨h0,jC,a,cap,vs,rfl,h1,jS hX hk hw hφ hO ho h2,h3.imp id ?_⟩
   rintro⟨b,o,rfl,hb,hs,hr⟩
   exact⟨b,o,rfl,fun hh=>hb (ho b hh),by rw[hw];exact hs,by rw[hw];exact hr⟩
 | .sl r g off len,_,h=>by
   simp only[ak] at h ⊢
   rw[hφ,(hO r).1,(hO r).2];exact h
 | .ptr r g idx off,_,h=>by
   simp only[ak] at h ⊢
   rw[hφ,(hO r).1,(hO r).2];exact h
 | .litk sz xs,_,h=>by
   simp only[ak] at h ⊢
   obtain⟨h0,jC,a,cap,vs,rfl,h1,h2,h3⟩:=h
   refine⟨h0,jC,a,cap,vs,rfl,h1,jS hX hk hw hφ hO ho h2,h3.imp id ?_⟩
   rintro⟨rfl,hb,hs,hr⟩
   rw[hk]
   exact⟨rfl,fun hh=>hb (ho _ hh),by rw[hw];exact hs,by rw[hw];exact hr⟩
 | .epk i sz e off,_,h=>by
   simp only[ak] at h ⊢
   obtain⟨h0,jC,x,rfl,hb,hs,h1,hr⟩:=h
   rw[hk]
   exact⟨h0,jC,x,rfl,fun hh=>hb (ho _ hh),by rw[hw];exact hs,weaken hX hk hw hφ hO ho h1,by rw[hw];exact hr⟩
 | .eptr e off,_,h=>by
   simp only[ak] at h ⊢
   obtain⟨h0,jC,b,o,sz,x,rfl,hb,hs,h1,hr⟩:=h
   exact⟨h0,jC,b,o,sz,x,rfl,fun hh=>hb (ho b hh),by rw[hw];exact hs,weaken hX hk hw hφ hO ho h1,by rw[hw];exact hr⟩
 | .mp r g,_,h| .it r g,_,h=>by
   simp only[ak] at h ⊢
   rw[hφ,(hO r).1,(hO r).2];exact h
 | .mlit es,_,h=>by
   simp only[ak] at h ⊢
   obtain⟨h0,h⟩:=h
   refine⟨h0,h.imp id ?_⟩
   rintro⟨a,ents,clock,rfl,hb,hs,h1,h2⟩
   exact⟨a,ents,clock,rfl,fun hh=>hb (ho a hh),by rw[hw];exact hs,by rw[hw];exact h1,jS hX hk hw hφ hO ho h2⟩
theorem jS (hX:X'.toTrEnv=X.toTrEnv) (hk:X'.tok=X.tok) (hw:μ'.w=μ.w) (hφ:μ'.φ=μ.φ) (hO: ∀r,(μ'.O r).gen=(μ.O r).gen∧(μ'.O r).sz=(μ.O r).sz) (ho: ∀b,Own X' μ' b→Own X μ b): ∀ {xs:List V} {vs:List Value},aj X μ xs vs→aj X' μ' xs vs
 | [],[],_=>by simp[aj]
 | [],_::_,h=>by simp[aj] at h
 | _::_,[],h=>by simp[aj] at h
 | x::xs,v::vs,h=>by
   simp only[aj] at h ⊢
   exact⟨weaken hX hk hw hφ hO ho h.1,jS hX hk hw hφ hO ho h.2⟩
end
mutual
theorem lO (hX:X'.toTrEnv=X.toTrEnv): ∀ {x:V} {v:Value},V.isScalar x=true→ak X μ x v→ak X' μ' x v
 | .bool _,_,_,h| .int ..,_,_,h| .float _,_,_,h| .str _,_,_,h| .nilp,_,_,h| .nilfn,_,_,h| .nili,_,_,h| .nils,_,_,h=>by simpa [ak] using h
 | .any,_,hp,_| .own ..,_,hp,_| .msl ..,_,hp,_| .mptr ..,_,hp,_| .sl ..,_,hp,_| .ptr ..,_,hp,_| .lit ..,_,hp,_| .eptr ..,_,hp,_| .litk ..,_,hp,_| .epk ..,_,hp,_| .mp ..,_,hp,_| .it ..,_,hp,_| .mlit ..,_,hp,_| .bfn ..,_,hp,_| .fn ..,_,hp,_| .iface ..,_,hp,_=>by simp[V.isScalar] at hp
 | .agg cs,_,hp,h=>by
   simp only[ak] at h ⊢
   obtain⟨h1,vs,rfl,h2⟩:=h
   exact⟨h1,vs,rfl,dU hX (by simpa [V.isScalar] using hp) h2⟩
 | .tuple cs,_,hp,h=>by
   simp only[ak] at h ⊢
   obtain⟨vs,rfl,h2⟩:=h
   exact⟨vs,rfl,dU hX (by simpa [V.isScalar] using hp) h2⟩
theorem dU (hX:X'.toTrEnv=X.toTrEnv): ∀ {xs:List V} {vs:List Value},V.bb xs=true→aj X μ xs vs→aj X' μ' xs vs
 | [],[],_,_=>by simp[aj]
 | [],_::_,_,h=>by simp[aj] at h
 | _::_,[],_,h=>by simp[aj] at h
 | x::xs,v::vs,hp,h=>by
   simp only[aj] at h ⊢
   simp only[V.bb,Bool.and_eq_true] at hp
   exact⟨lO hX hp.1 h.1,dU hX hp.2 h.2⟩
end
end
structure BX (Y:Ctx) (μf μ1:Mu) (r j:Nat) (row:Row) (o:Obj):Prop where
 es: ∃es,o.es=some es∧V.aq es=true∧0 <o.sz∧es.length≤row.cap∧es.all (aO · o.sz)=true∧
  (row.cap=0∨ ∃c T vs,μ1.w.heap[row.cK]? =some (.cells c T (0,0))∧row.base+row.cap*o.sz≤c.size∧aj Y μ1 es vs∧dA μ1.w row.cK row.base o.sz vs)
 live: (μ1.O j).es.isSome=true∧(μ1.O j).fz=false
 cK:row.cap≠0→(μ1.φ j).cap≠0∧row.cK=(μ1.φ j).cK
 gen: (μf.O r).gen<o.gen∨(o.gen=(μf.O r).gen∧row=μf.φ r∧o.sz=(μf.O r).sz)
 sc: (∀es,(μ1.O j).es=some es→V.bb es=true)→ ∀es,o.es=some es→V.bb es=true
structure eL (Y:Ctx) (μf μ1:Mu) (U:Nat→Prop) (A:Nat→Option Nat) (φ:Nat→Row) (O:Nat→Obj):Prop where
 qy: ∀r,A r=none→O r=μf.O r∧φ r=μf.φ r
 w4: ∀r j,A r=some j→BX Y μf μ1 r j (φ r) (O r)∧U j
 inj: ∀r1 r2 j,A r1=some j→A r2=some j→r1=r2
def dp (φ:Nat→Row) (O:Nat→Obj) (φ':Nat→Row) (O':Nat→Obj):Prop:=
 ∀r,(O r).gen≤(O' r).gen∧((O' r).gen=(O r).gen→φ' r=φ r∧(O' r).sz=(O r).sz)
theorem dp.refl (φ:Nat→Row) (O:Nat→Obj):dp φ O φ O:=fun _=> ⟨Nat.le_refl _,fun _=> ⟨rfl,rfl⟩⟩
theorem dp.trans {φ φ' φ'':Nat→Row} {O O' O'':Nat→Obj} (h:dp φ O φ' O') (k:dp φ' O' φ'' O''):dp φ O φ'' O'':=fun r=>by
 obtain⟨h1,h2⟩:=h r
 obtain⟨k1,k2⟩:=k r
 refine⟨Nat.le_trans h1 k1,fun e=> ?_⟩
 obtain⟨a1,a2⟩:=h2 (by omega)
 obtain⟨b1,b2⟩:=k2 (by omega)
 exact⟨b1.trans a1,b2.trans a2⟩
def lP (μ1:Mu) (φ:Nat→Row) (O:Nat→Obj) (i r g:Nat):Prop:=g≤(O r).gen∧((O r).gen=g→φ r=μ1.φ i∧(O r).sz=(μ1.O i).sz)
theorem lP.mono {μ1:Mu} {φ φ':Nat→Row} {O O':Nat→Obj} {i r g:Nat} (h:lP μ1 φ O i r g) (m:dp φ O φ' O'):lP μ1 φ' O' i r g:=by
 obtain⟨m1,m2⟩:=m r
 refine⟨Nat.le_trans h.1 m1,fun e=> ?_⟩
 have:=h.1
 obtain⟨a1,a2⟩:=m2 (by omega)
 obtain⟨b1,b2⟩:=h.2 (by omega)
 exact⟨a1.trans b1,a2.trans b2⟩
theorem eL.take {Y:Ctx} {μf μ1:Mu} {U U':Nat→Prop} {A:Nat→Option Nat} {φ:Nat→Row} {O:Nat→Obj} (h:eL Y μf μ1 U A φ O) {r j:Nat} {row:Row} {o:Obj} (hj: ¬U j) (hU: ∀i,U i→U' i) (hUj:U' j)
  (ht:BX Y μf μ1 r j row o):eL Y μf μ1 U' (dg A r (some j)) (dg φ r row) (dg O r o) where
 qy:=fun r' e=>by
  by_cases e':r'=r
  · subst e';simp[az] at e
  · rw[aV _ _ e'] at e ⊢;rw[aV _ _ e'];exact h.qy r' e
 w4:=fun r' j' e=>by
  by_cases e':r'=r
  · subst e';simp only[az] at e ⊢;injection e with e;subst e;exact⟨ht,hUj⟩
  · rw[aV _ _ e'] at e ⊢;rw[aV _ _ e']
    obtain⟨k1,k2⟩:=h.w4 r' j' e
    exact⟨k1,hU _ k2⟩
 inj:=fun r1 r2 j' e1 e2=>by
  by_cases q1:r1=r<;>by_cases q2:r2=r
  · rw[q1,q2]
  · subst q1
    simp only[az] at e1;injection e1 with e1;subst e1
    rw[aV _ _ q2] at e2
    exact absurd (h.w4 r2 _ e2).2 hj
  · subst q2
    simp only[az] at e2;injection e2 with e2;subst e2
    rw[aV _ _ q1] at e1
    exact absurd (h.w4 r1 _ e1).2 hj
  · rw[aV _ _ q1] at e1
    rw[aV _ _ q2] at e2
    exact h.inj r1 r2 j' e1 e2
theorem dp.dg {φ:Nat→Row} {O:Nat→Obj} {r:Nat} {row:Row} {o:Obj} (h: (O r).gen<o.gen∨(o.gen=(O r).gen∧row=φ r∧o.sz=(O r).sz)):dp φ O (dg φ r row) (dg O r o):=fun r'=>by
 by_cases e:r'=r
 · subst e
   simp only[az]
   rcases h with h| ⟨h1,h2,h3⟩
   · exact⟨by omega,fun e=>by omega⟩
   · exact⟨by omega,fun _=> ⟨h2,h3⟩⟩
 · simp[aV _ _ e]
end Go.AM
namespace Go.AM
open Go Go.RowKit
section
variable {X Y:Ctx} {μ μf μ1:Mu} {r0:Nat} {C:a9} {T:Nat→V}
theorem oX (h1:bc Y μ1) {r i:Nat} {es:List V} {o:Obj} (h0:0 < (μ1.O i).sz) (bl: (μ1.O i).es=some es) (fN: (μ1.O i).fz=false) (hp:V.aq es=true) (ho:o.es=some es) (ck:o.sz=(μ1.O i).sz)
  (hg: (μf.O r).gen<o.gen∨(o.gen=(μf.O r).gen∧μ1.φ i=μf.φ r∧o.sz=(μf.O r).sz)):BX Y μf μ1 r i (μ1.φ i) o:=by
 obtain⟨q1,q2,q3,q4⟩:=h1.row i es bl h0
 refine⟨⟨es,ho,hp,by rw[ck];exact q1,q2,by rw[ck];exact q3,?_⟩,⟨by simp[bl],fN⟩,fun hc=> ⟨hc,rfl⟩,hg,fun hs es' he=> ?_⟩
 · rw[ck];exact q4
 · rw[ho] at he;injection he with he;subst he;exact hs _ bl
theorem iP {O:Nat→Obj} {i sz off len:Nat} {nA:List V} {as:List V} {outs:List (Nat×List V)} (h:bO O i (.msl sz nA off len::as)=some outs):
   ∃es jv,(O i).es=some es∧bO O (i+1) as=some jv∧(O i).fz=false∧(O i).sz=sz∧V.aq es=true∧outs=((O i).gen,es)::jv:=by
 simp only[bO] at h
 split at h
 · rename_i es jv h1 h2
   split at h
   · rename_i hc
     injection h with h
     exact⟨es,jv,h1,h2,hc.1,hc.2.1,hc.2.2,h.symm⟩
   · simp at h
 · simp at h
theorem ow {O:Nat→Obj} {i sz off len:Nat} {nA:List V} {as:List V} {outs:List (Nat×List V)} (h:bO O i (.mptr sz nA off len::as)=some outs):
   ∃es jv,(O i).es=some es∧bO O (i+1) as=some jv∧(O i).fz=false∧(O i).sz=sz∧V.aq es=true∧outs=((O i).gen,es)::jv:=by
 simp only[bO] at h
 split at h
 · rename_i es jv h1 h2
   split at h
   · rename_i hc
     injection h with h
     exact⟨es,jv,h1,h2,hc.1,hc.2.1,hc.2.2,h.symm⟩
   · simp at h
 · simp at h
theorem mR {O:Nat→Obj} {i:Nat} {a:V} {as:List V} (h:V.aB a=true):bO O i (a::as)=bO O (i+1) as:=by
 cases a<;>simp[V.aB] at h<;>rfl
theorem ox (h1:bc Y μ1) {w0:List df} (fR: ∀w ∈ w0,w.fresh=none→(μ1.O w.i).gen=0→μ1.φ w.i=μ.φ w.r) (hφ:μf.φ=μ.φ) (K6: ∀w ∈ w0,μf.O w.r=μ.O w.r) {S:Nat→Prop} (hS: ∀w ∈ w0,S w.i):
   ∀ {i:Nat} {as:List V} {vs:List Value} {rs:List Nat} {ws:List df},jr X μ r0 i as vs rs ws→ ∀ {outs:List (Nat×List V)} {A:Nat→Option Nat} {φ:Nat→Row} {O:Nat→Obj} {k:List (Nat×Nat×Nat)→Act} {p:V×St},
     bO μ1.O i as=some outs→eL Y μf μ1 (fun j=>j<i∧S j) A φ O→(∀w ∈ ws,w ∈ w0)→(∀w ∈ ws,A w.r=none)→distinct (ws.map (·.r))=true→(cn ws outs k).run C ⟨T,O⟩=some p→
     ∃A' φ' O' gs,(k gs).run C ⟨T,O'⟩=some p∧eL Y μf μ1 (fun j=>j<i+as.length∧S j) A' φ' O'∧dp φ O φ' O'∧(∀w ∈ ws,A' w.r≠none)∧(∀r,A r≠none→A' r≠none)∧
       ∀x ∈ gs,lP μ1 φ' O' x.1 x.2.1 x.2.2:=by
 intro i as vs rs ws hp
 induction hp with
 | nil i=>
   intro outs A φ O k p ho ht _ _ _ ag
   simp[bO] at ho;subst ho
   exact⟨A,φ,O,[],ag,by simpa using ht,dp.refl _ _,by simp,fun _ h=>h,by simp⟩
 | @plain i a v rs rs' as vs ws kb hs h ih=>
   intro outs A φ O k p ho ht hw hA hd ag
   rw[mR kb] at ho
   have vJ:eL Y μf μ1 (fun j=>j<i+1∧S j) A φ O:=⟨ht.qy,fun r j e=> ⟨(ht.w4 r j e).1,⟨by have:=(ht.w4 r j e).2.1;omega,(ht.w4 r j e).2.2⟩⟩,ht.inj⟩
   obtain⟨A',φ',O',gs,k1,k2,k3,k4,k5,k6⟩:=ih ho vJ hw hA hd ag
   refine⟨A',φ',O',gs,k1,?_,k3,k4,k5,k6⟩
   have e:i+(a::as).length=i+1+as.length:=by simp;omega
   rw[e];exact k2
 | @sl i r g off len nA v rs as vs ws bl fN b5 kb gm hv h ih=>
   intro outs A φ O k p ho ht hw hA hd ag
   obtain⟨es,jv,o1,o2,o3,o4,o5,rfl⟩:=iP ho
   simp only[cn,Act.run] at ag
   have K7:=hA ⟨i,r,none⟩ (by simp)
   simp only at K7
   obtain⟨n1,n2⟩:=ht.qy r K7
   have hOr:μf.O r=μ.O r:=K6 ⟨i,r,none⟩ (hw _ (by simp))
   have u7: (μf.O r).gen< (O r).gen+(μ1.O i).gen∨((O r).gen+(μ1.O i).gen=(μf.O r).gen∧μ1.φ i=μf.φ r∧(O r).sz=(μf.O r).sz):=by
     rw[n1]
     by_cases hz: (μ1.O i).gen=0
     · right;refine⟨by omega,?_,rfl⟩
       rw[hφ];exact fR ⟨i,r,none⟩ (hw _ (by simp)) rfl hz
     · left;omega
   have AV:BX Y μf μ1 r i (μ1.φ i) {O r with gen:=(O r).gen+(μ1.O i).gen,es:=some es}:=
     oX h1 (by rw[o4];simp only[ak] at hv;obtain⟨_,_,_,_,_,hh⟩:=hv;exact(hh b5).1) o1 o3 o5 rfl (by simp only[n1,hOr];exact o4.symm) u7
   have vJ:=ht.take (U':=fun j=>j<i+1∧S j) (by simp) (fun j hj=> ⟨by omega,hj.2⟩) ⟨by simp,hS ⟨i,r,none⟩ (hw _ (by simp))⟩ AV
   have hm:dp φ O (dg φ r (μ1.φ i)) (dg O r {O r with gen:=(O r).gen+(μ1.O i).gen,es:=some es}):=by
     refine dp.dg ?_
     rw[n2]
     have:=u7
     rw[←n1] at this
     exact this.imp id fun hh=> ⟨hh.1,hh.2.1,hh.2.2⟩
   simp only[List.map_cons,distinct,Bool.and_eq_true,Bool.not_eq_true',List.contains_eq_mem,decide_eq_false_iff_not] at hd
   obtain⟨A',φ',O',gs,k1,k2,k3,k4,k5,k6⟩:=ih o2 vJ (fun w iM=>hw w (by simp[iM])) (fun w iM=>by
     have:w.r≠r:=fun e=>hd.1 (List.mem_map.2 ⟨w,iM,e⟩)
     rw[aV _ _ this];exact hA w (by simp[iM])) hd.2 ag
   refine⟨A',φ',O',_,k1,?_,hm.trans k3,fun w iM=> ?_,fun r' qM=>k5 r' ?_,fun x hx=> ?_⟩
   · have e:i+(V.msl (μ.O r).sz nA off len::as).length=i+1+as.length:=by simp;omega
     rw[e];exact k2
   · rcases List.mem_cons.1 iM with rfl| iM
     · exact k5 r (by simp[az])
     · exact k4 w iM
   · by_cases e:r'=r
     · subst e;simp[az]
     · rw[aV _ _ e];exact qM
   · rcases List.mem_cons.1 hx with rfl| hx
     · refine lP.mono ⟨?_,fun _=> ?_⟩ k3
       · simp[az]
       · simp only[az];exact⟨trivial,by rw[n1,hOr];exact o4.symm⟩
     · exact k6 x hx
 | @ptr i r g idx off nA v rs as vs ws bl fN b5 kb hv h ih=>
   intro outs A φ O k p ho ht hw hA hd ag
   obtain⟨es,jv,o1,o2,o3,o4,o5,rfl⟩:=ow ho
   simp only[cn,Act.run] at ag
   have K7:=hA ⟨i,r,none⟩ (by simp)
   simp only at K7
   obtain⟨n1,n2⟩:=ht.qy r K7
   have hOr:μf.O r=μ.O r:=K6 ⟨i,r,none⟩ (hw _ (by simp))
   have u7: (μf.O r).gen< (O r).gen+(μ1.O i).gen∨((O r).gen+(μ1.O i).gen=(μf.O r).gen∧μ1.φ i=μf.φ r∧(O r).sz=(μf.O r).sz):=by
     rw[n1]
     by_cases hz: (μ1.O i).gen=0
     · right;refine⟨by omega,?_,rfl⟩
       rw[hφ];exact fR ⟨i,r,none⟩ (hw _ (by simp)) rfl hz
     · left;omega
   have AV:BX Y μf μ1 r i (μ1.φ i) {O r with gen:=(O r).gen+(μ1.O i).gen,es:=some es}:=
     oX h1 (by rw[o4];simp only[ak] at hv;obtain⟨_,_,_,hh⟩:=hv;exact(hh b5).1) o1 o3 o5 rfl (by simp only[n1,hOr];exact o4.symm) u7
   have vJ:=ht.take (U':=fun j=>j<i+1∧S j) (by simp) (fun j hj=> ⟨by omega,hj.2⟩) ⟨by simp,hS ⟨i,r,none⟩ (hw _ (by simp))⟩ AV
   have hm:dp φ O (dg φ r (μ1.φ i)) (dg O r {O r with gen:=(O r).gen+(μ1.O i).gen,es:=some es}):=by
     refine dp.dg ?_
     rw[n2]
     have:=u7
     rw[←n1] at this
     exact this.imp id fun hh=> ⟨hh.1,hh.2.1,hh.2.2⟩
   simp only[List.map_cons,distinct,Bool.and_eq_true,Bool.not_eq_true',List.contains_eq_mem,decide_eq_false_iff_not] at hd
   obtain⟨A',φ',O',gs,k1,k2,k3,k4,k5,k6⟩:=ih o2 vJ (fun w iM=>hw w (by simp[iM])) (fun w iM=>by
     have:w.r≠r:=fun e=>hd.1 (List.mem_map.2 ⟨w,iM,e⟩)
     rw[aV _ _ this];exact hA w (by simp[iM])) hd.2 ag
   refine⟨A',φ',O',_,k1,?_,hm.trans k3,fun w iM=> ?_,fun r' qM=>k5 r' ?_,fun x hx=> ?_⟩
   · have e:i+(V.mptr (μ.O r).sz nA idx off::as).length=i+1+as.length:=by simp;omega
     rw[e];exact k2
   · rcases List.mem_cons.1 iM with rfl| iM
     · exact k5 r (by simp[az])
     · exact k4 w iM
   · by_cases e:r'=r
     · subst e;simp[az]
     · rw[aV _ _ e];exact qM
   · rcases List.mem_cons.1 hx with rfl| hx
     · refine lP.mono ⟨?_,fun _=> ?_⟩ k3
       · simp[az]
       · simp only[az];exact⟨trivial,by rw[n1,hOr];exact o4.symm⟩
     · exact k6 x hx
 | @fresh i sz v rs as vs ws ck hv h ih=>
   intro outs A φ O k p ho ht hw hA hd ag
   obtain⟨es,jv,o1,o2,o3,o4,o5,rfl⟩:=iP ho
   simp only[cn,Act.run] at ag
   have K7:=hA ⟨i,r0+i,some sz⟩ (by simp)
   simp only at K7
   obtain⟨n1,n2⟩:=ht.qy (r0+i) K7
   have AV:BX Y μf μ1 (r0+i) i (μ1.φ i) {gen:=(O (r0+i)).gen+1,sz,arr:=true,fz:=false,es:=some es}:=
     oX h1 (by rw[o4];exact ck) o1 o3 o5 rfl o4.symm (.inl (by simp only[n1];omega))
   have vJ:=ht.take (U':=fun j=>j<i+1∧S j) (by simp) (fun j hj=> ⟨by omega,hj.2⟩) ⟨by simp,hS ⟨i,r0+i,some sz⟩ (hw _ (by simp))⟩ AV
   have hm:dp φ O (dg φ (r0+i) (μ1.φ i)) (dg O (r0+i) {gen:=(O (r0+i)).gen+1,sz,arr:=true,fz:=false,es:=some es}):=
     dp.dg (.inl (by simp))
   simp only[List.map_cons,distinct,Bool.and_eq_true,Bool.not_eq_true',List.contains_eq_mem,decide_eq_false_iff_not] at hd
   obtain⟨A',φ',O',gs,k1,k2,k3,k4,k5,k6⟩:=ih o2 vJ (fun w iM=>hw w (by simp[iM])) (fun w iM=>by
     have:w.r≠r0+i:=fun e=>hd.1 (List.mem_map.2 ⟨w,iM,e⟩)
     rw[aV _ _ this];exact hA w (by simp[iM])) hd.2 ag
   refine⟨A',φ',O',_,k1,?_,hm.trans k3,fun w iM=> ?_,fun r' qM=>k5 r' ?_,fun x hx=> ?_⟩
   · have e:i+(V.msl sz [] 0 0::as).length=i+1+as.length:=by simp;omega
     rw[e];exact k2
   · rcases List.mem_cons.1 iM with rfl| iM
     · exact k5 (r0+i) (by simp[az])
     · exact k4 w iM
   · by_cases e:r'=r0+i
     · subst e;simp[az]
     · rw[aV _ _ e];exact qM
   · rcases List.mem_cons.1 hx with rfl| hx
     · refine lP.mono ⟨?_,fun _=> ?_⟩ k3
       · simp[az]
       · simp only[az];exact⟨trivial,o4.symm⟩
     · exact k6 x hx
theorem Hj {O:Nat→Obj} {i:Nat} {as:List V} {vs:List Value} {rs:List Nat} {ws:List df} (hp:jr X μ r0 i as vs rs ws): ∀ {outs:List (Nat×List V)},bO O i as=some outs→
   ∀w ∈ ws,∃g es,(O w.i).es=some es∧(g,es) ∈ outs:=by
 induction hp with
 | nil i=>intro outs _ w hw;simp at hw
 | plain kb hs h ih=>intro outs ho;rw[mR kb] at ho;exact ih ho
 | @sl i r g off len nA v rs as vs ws bl fN b5 kb gm hv h ih=>
   intro outs ho w hw
   obtain⟨es,jv,o1,o2,o3,o4,o5,rfl⟩:=iP ho
   rcases List.mem_cons.1 hw with rfl| hw
   · exact⟨_,es,o1,List.mem_cons_self⟩
   · obtain⟨g,es',k1,k2⟩:=ih o2 w hw;exact⟨g,es',k1,by simp[k2]⟩
 | @ptr i r g idx off nA v rs as vs ws bl fN b5 kb hv h ih=>
   intro outs ho w hw
   obtain⟨es,jv,o1,o2,o3,o4,o5,rfl⟩:=ow ho
   rcases List.mem_cons.1 hw with rfl| hw
   · exact⟨_,es,o1,List.mem_cons_self⟩
   · obtain⟨g,es',k1,k2⟩:=ih o2 w hw;exact⟨g,es',k1,by simp[k2]⟩
 | @fresh i sz v rs as vs ws ck hv h ih=>
   intro outs ho w hw
   obtain⟨es,jv,o1,o2,o3,o4,o5,rfl⟩:=iP ho
   rcases List.mem_cons.1 hw with rfl| hw
   · exact⟨_,es,o1,List.mem_cons_self⟩
   · obtain⟨g,es',k1,k2⟩:=ih o2 w hw;exact⟨g,es',k1,by simp[k2]⟩
end
end Go.AM
namespace Go.AM
open Go Go.RowKit
def after (Y:Ctx) (μ1:Mu) (n:Nat) (bg:Bool) (b:Nat):Prop:=
 Y.KO b∨ ∃j,(bg=true∨j<n)∧(μ1.O j).es.isSome=true∧(μ1.O j).fz=false∧(μ1.φ j).cap≠0∧(μ1.φ j).cK=b
def quiet (μ1:Mu) (φ:Nat→Row) (O:Nat→Obj):Mu:=⟨μ1.w,φ,fun r=> {O r with fz:=true}⟩
theorem rG {μ1:Mu} {φ:Nat→Row} {O:Nat→Obj} {b:Nat}: ¬ (quiet μ1 φ O).own b:=by
 rintro⟨r,_,h,_⟩;simp[quiet] at h
theorem Af {μ1:Mu} {φ φ':Nat→Row} {O O':Nat→Obj} (h:dp φ O φ' O'):Le (quiet μ1 φ O) (quiet μ1 φ' O'):=
 ⟨Nat.le_refl _,fun _ _ _=> ⟨rfl,rG⟩,fun r=> (h r).1,fun r e=> (h r).2 e,rfl,rfl,rfl,fun _ _=>rfl⟩
theorem iA: ∀ {as bs:List Nat},distinct (as++bs)=true→distinct as=true∧distinct bs=true∧ ∀b ∈ bs,b ∉ as
 | [],bs,h=> ⟨rfl,h,fun _ _=>by simp⟩
 | a::as,bs,h=>by
   simp only[List.cons_append,distinct,Bool.and_eq_true,Bool.not_eq_true',List.contains_eq_mem,decide_eq_false_iff_not,List.mem_append,not_or] at h ⊢
   obtain⟨h1,h2⟩:=h
   obtain⟨k1,k2,k3⟩:=iA h2
   refine⟨⟨h1.1,k1⟩,k2,fun b hb=> ?_⟩
   simp only[List.mem_cons,not_or]
   exact⟨fun e=>h1.2 (e ▸ hb),k3 b hb⟩
theorem sy {i r g:Nat}: ∀ {gs:List (Nat×Nat×Nat)},eW i gs=some (r,g)→(i,r,g) ∈ gs
 | [],h=>by simp[eW] at h
 | (j,r',g')::gs,h=>by
   simp only[eW] at h
   split at h
   · rename_i e
     subst e
     simp only[Option.some.injEq,Prod.mk.injEq] at h
     simp[h.1,h.2]
   · exact List.mem_cons_of_mem _ (sy h)
theorem mS: ∀ {es:List V} (n:Nat),V.bb es=true→V.bb (es.take n)=true
 | _,0,_=>by simp[V.bb]
 | [],_+1,_=>by simp[V.bb]
 | x::xs,n+1,h=>by
   simp only[V.bb,Bool.and_eq_true] at h
   simp only[List.take_succ_cons,V.bb,Bool.and_eq_true]
   exact⟨h.1,mS n h.2⟩
theorem mT: ∀ {es:List V} (n:Nat),V.bb es=true→V.bb (es.drop n)=true
 | _,0,h=>by simpa using h
 | [],_+1,_=>by simp[V.bb]
 | x::xs,n+1,h=>by
   simp only[V.bb,Bool.and_eq_true] at h
   simpa using mT n h.2
theorem rH {es:List V} {off len:Nat} (h:V.bb es=true):V.bb (aJ es off len)=true:=mS _ (mT _ h)
section
variable {Y:Ctx} {μf μ1:Mu} {n:Nat} {bg:Bool} {C:a9} {T:Nat→V}
theorem iX {φ:Nat→Row} {O:Nat→Obj} {b:Nat} (h:Own ⟨Y.toTrEnv,after Y μ1 n bg,Y.tok⟩ (quiet μ1 φ O) b):Own Y μ1 b:=by
 rcases h with h| h| ⟨j,_,h1,h2,h3,h4⟩
 · exact absurd h rG
 · exact .inr h
 · exact .inl ⟨j,h1,h2,h3,h4⟩
theorem gN (h1:bc Y μ1) {U:Nat→Prop} {A:Nat→Option Nat} {φ:Nat→Row} {O:Nat→Obj} {gs:List (Nat×Nat×Nat)} {c:V} {rs:List Nat} {val:Value} {r:Nat} {k:V→Act} {p:V×St}
   (ht:eL Y μf μ1 U A φ O) (hlo: ∀r,(μf.O r).gen≤(O r).gen) (zO: ∀x ∈ gs,lP μ1 φ O x.1 x.2.1 x.2.2) (he:Jv Y μ1 n c rs val) (hU: ∀j ∈ rs,n≤j→ ¬U j) (ag: (bL bg r gs c k).run C ⟨T,O⟩=some p):
   ∃A' φ' O' c',(k c').run C ⟨T,O'⟩=some p∧eL Y μf μ1 (fun j=>U j∨(bg=true∧j ∈ rs)) A' φ' O'∧dp φ O φ' O'∧(∀r,A r≠none→A' r≠none)∧
     ak ⟨Y.toTrEnv,after Y μ1 n bg,Y.tok⟩ (quiet μ1 φ' O') c' val∧(c.gX=true→c'.aK=true):=by
 have AV:eL Y μf μ1 (fun j=>U j∨(bg=true∧j ∈ rs)) A φ O:=⟨ht.qy,fun r j e=> ⟨(ht.w4 r j e).1,.inl (ht.w4 r j e).2⟩,ht.inj⟩
 cases he with
 | pure hp hv=>
   refine⟨A,φ,O,c,?_,AV,dp.refl _ _,fun _ h=>h,db (X:=Y) (μ:=μ1) (μ':=quiet μ1 φ O) rfl (fun b=>iX) hp hv,fun hc=> ?_⟩
   · cases c<;>simp[V.aB] at hp<;>simpa [bL,V.aB,hp] using ag
   · cases c<;>simp_all[V.aB,V.gX]
 | @sl j g off len es val hr bl hg hl hv=>
   simp only[bL] at ag
   split at ag
   · rename_i r' g' Ib
     obtain⟨g1,g2⟩:=zO _ (sy Ib)
     refine⟨A,φ,O,_,ag,AV,dp.refl _ _,fun _ h=>h,?_,fun _=>rfl⟩
     simp only[ak] at hv ⊢
     obtain⟨a,cap,rfl,q1,q2,q3⟩:=hv
     refine⟨a,cap,rfl,q1,g1,fun e=> ?_⟩
     obtain⟨e1,e2⟩:=g2 e
     simp only[quiet] at e1 e2 ⊢
     rw[e1,e2];exact q3 hg
   · exact absurd ag av
 | @own j g off len es val hr bl fN hg hl hp hv=>
   simp only[bL] at ag
   have a0:0 < (μ1.O j).sz:=by simp only[ak] at hv;obtain⟨_,_,_,_,_,hh⟩:=hv;exact(hh hg).1
   obtain⟨q1,q2,q3,q4⟩:=h1.row j es bl a0
   have lV: (aJ es off len).length=len:=by simp[aJ];omega
   have MN: (aJ es off len).all (aO · (μ1.O j).sz)=true:=by
     simp only[List.all_eq_true] at q3 ⊢
     exact fun x hx=>q3 x (List.mem_of_mem_drop (List.mem_of_mem_take hx))
   have kx: (aJ es off len).all V.cJ=true:=by
     simp only[List.all_eq_true] at MN ⊢
     exact fun x hx=> (bE (MN x hx)).1
   simp only[ak] at hv
   obtain⟨a,cap,rfl,s1,s2,s3⟩:=hv
   obtain⟨-,a1,a2⟩:=s3 hg
   cases Y7:bg with
   | true=>
     subst Y7
     rw[if_pos rfl] at ag
     simp only[Act.run] at ag
     have fR: (⟨(μ1.φ j).cK,(μ1.φ j).base+off*(μ1.O j).sz,cap⟩:Row).cap=cap:=rfl
     have XV:BX Y μf μ1 r j ⟨(μ1.φ j).cK,(μ1.φ j).base+off*(μ1.O j).sz,cap⟩ {gen:=(O r).gen+1,sz:=(μ1.O j).sz,arr:=true,fz:=false,es:=some (aJ es off len)}:=by
       refine⟨⟨_,rfl,hp,q1,by simp only[lV];exact s1,MN,?_⟩,⟨by simp[bl],fN⟩,fun hc=> ⟨?_,rfl⟩,.inl ?_,fun hs es' he=> ?_⟩
       · rcases q4 with q4| ⟨cc,TT,vs,p1,p2,p3,p4⟩
         · left;simp only;omega
         · right
           refine⟨cc,TT,(vs.drop off).take len,p1,?_,aj.take _ (aj.drop _ p3),(p4.drop off).take len⟩
           simp only
           rw[←a1,Nat.add_mul] at p2
           omega
       · simp only at hc;omega
       · have:=hlo r;simp only;omega
       · simp only at he;injection he with he;subst he
         exact rH (hs es bl)
     have hm:dp φ O (dg φ r ⟨(μ1.φ j).cK,(μ1.φ j).base+off*(μ1.O j).sz,cap⟩) (dg O r {gen:=(O r).gen+1,sz:=(μ1.O j).sz,arr:=true,fz:=false,es:=some (aJ es off len)}):=
       dp.dg (.inl (by simp))
     refine⟨_,_,_,_,ag,ht.take (U':=fun i=>U i∨(True∧i ∈ [j])) (hU j (by simp) hr) (fun i hi=> .inl hi) (by simp) XV |> fun t=>by simpa using t,hm,fun r' qM=> ?_,?_,fun _=>rfl⟩
     · by_cases e:r'=r
       · subst e;simp[az]
       · rw[aV _ _ e];exact qM
     · simp only[ak,quiet,az]
       refine⟨a,cap,by rw[lV],by rw[lV];exact s1,Nat.le_refl _,fun _=> ⟨a0,by omega,a2.imp id fun e=> ?_⟩⟩
       rw[e];simp
   | false=>
     subst Y7
     rw[if_neg (by simp)] at ag
     refine⟨A,φ,O,_,ag,AV,dp.refl _ _,fun _ h=>h,?_,fun _=>rfl⟩
     simp only[ak]
     by_cases yM:len=0
     · exact⟨hp,kx,a,cap,[],by rw[lV],by omega,by simp[aJ,yM,aj],.inl (by simpa using lV.trans yM)⟩
     · rcases q4 with q4| ⟨cc,TT,vs,p1,p2,p3,p4⟩
       · omega
       · refine⟨hp,kx,a,cap,(vs.drop off).take len,by rw[lV],by omega,bA (X:=Y) (μ:=μ1) (μ':=quiet μ1 φ O) rfl (fun b=>iX) hp (aj.take _ (aj.drop _ p3)),
           .inr ⟨_,_,a2.resolve_left (by omega),?_,(Array.getElem?_eq_some_iff.1 p1).1,(p4.drop off).take len⟩⟩
         rintro(h| h| ⟨j',k0,k1,k2,k3,k4⟩)
         · exact rG h
         · exact h1.qJ j (by simp[bl]) (by omega) h
         · have NG:j'<n:=by simpa using k0
           exact h1.inj j' j (by omega) k1 (by simp[bl]) k3 (by omega) k4
theorem eL.lo {U:Nat→Prop} {A:Nat→Option Nat} {φ:Nat→Row} {O:Nat→Obj} (h:eL Y μf μ1 U A φ O) (r:Nat): (μf.O r).gen≤(O r).gen:=by
 cases e:A r with
 | none=>rw[(h.qy r e).1];exact Nat.le_refl _
 | some j=>
   rcases(h.w4 r j e).1.gen with h| ⟨h,_⟩ <;>omega
def yq (Y:Ctx) (μf μ1:Mu) (C:a9) (T:Nat→V) (U:Nat→Prop) (A:Nat→Option Nat) (φ:Nat→Row) (O:Nat→Obj) {α:Type} (k:α→Act) (p:V×St) (G: (Nat→Row)→(Nat→Obj)→α→Prop):Prop:=
 ∃A' φ' O' c',(k c').run C ⟨T,O'⟩=some p∧eL Y μf μ1 U A' φ' O'∧dp φ O φ' O'∧(∀r,A r≠none→A' r≠none)∧G φ' O' c'
theorem eL.more {U U':Nat→Prop} {A:Nat→Option Nat} {φ:Nat→Row} {O:Nat→Obj} (h:eL Y μf μ1 U A φ O) (hU: ∀j,U j→U' j):eL Y μf μ1 U' A φ O:=
 ⟨h.qy,fun r j e=> ⟨(h.w4 r j e).1,hU _ (h.w4 r j e).2⟩,h.inj⟩
theorem qC (h1:bc Y μ1): ∀ {U:Nat→Prop} {A:Nat→Option Nat} {φ:Nat→Row} {O:Nat→Obj} {gs:List (Nat×Nat×Nat)} {cs:List V} {rs:List Nat} {vals:List Value} {r:Nat} {k:List V→Act} {p:V×St},
   eL Y μf μ1 U A φ O→(∀x ∈ gs,lP μ1 φ O x.1 x.2.1 x.2.2)→vX Y μ1 n cs rs vals→(∀j ∈ rs,n≤j→ ¬U j)→distinct rs=true→(cm bg r gs cs k).run C ⟨T,O⟩=some p→
   yq Y μf μ1 C T (fun j=>U j∨(bg=true∧j ∈ rs)) A φ O k p fun φ' O' ct=>aj ⟨Y.toTrEnv,after Y μ1 n bg,Y.tok⟩ (quiet μ1 φ' O') ct vals∧(cs.all V.gX=true→ct.all V.aK=true):=by
 intro U A φ O gs cs rs vals r k p ht zO he hU hd ag
 induction he generalizing U A φ O r k with
 | nil=>exact⟨A,φ,O,[],ag,ht.more fun j h=> .inl h,dp.refl _ _,fun _ h=>h,by simp[aj],fun _=>rfl⟩
 | @cons c rs rs' val cs vals h hs ih=>
   obtain⟨d1,d2,d3⟩:=iA hd
   simp only[cm] at ag
   obtain⟨A1,φ1,O1,c1,k1,k2,k3,k4,k5,k6⟩:=gN h1 ht ht.lo zO h (fun j hj=>hU j (by simp[hj])) ag
   obtain⟨A2,φ2,O2,cs2,m1,m2,m3,m4,m5,m6⟩:=ih k2 (fun x hx=> (zO x hx).mono k3) (fun j hj hn hu=>by
     rcases hu with hu| ⟨_,hu⟩
     · exact hU j (by simp[hj]) hn hu
     · exact d3 j hj hu) d2 k1
   refine⟨A2,φ2,O2,c1::cs2,m1,m2.more fun j hj=> ?_,k3.trans m3,fun r' h=>m4 r' (k4 r' h),?_,?_⟩
   · rcases hj with(hj| ⟨e,hj⟩) | ⟨e,hj⟩
     · exact .inl hj
     · exact .inr ⟨e,by simp[hj]⟩
     · exact .inr ⟨e,by simp[hj]⟩
   · simp only[aj];exact⟨ak.mono (Af m3) k5,m5⟩
   · simp only[List.all_cons,Bool.and_eq_true]
     exact fun hc=> ⟨k6 hc.1,m6 hc.2⟩
theorem gO: ∀ {cs:List V},V.aq cs=true→cs.all V.gX=true→cs.all V.aK=true
 | [],_,_=>rfl
 | a::as,hp,hc=>by
   simp only[V.aq,Bool.and_eq_true] at hp
   simp only[List.all_cons,Bool.and_eq_true] at hc ⊢
   refine⟨?_,gO hp.2 hc.2⟩
   have h1:=hp.1
   have h2:=hc.1
   cases a<;>simp_all[V.aB,V.gX]
theorem oy (h1:bc Y μ1) {U:Nat→Prop} {A:Nat→Option Nat} {φ:Nat→Row} {O:Nat→Obj} {gs:List (Nat×Nat×Nat)} {c:V} {rs:List Nat} {val:Value} {r:Nat} {k:V→Act} {p:V×St}
   (ht:eL Y μf μ1 U A φ O) (zO: ∀x ∈ gs,lP μ1 φ O x.1 x.2.1 x.2.2) (he:Ek Y μ1 n c rs val) (hU: ∀j ∈ rs,n≤j→ ¬U j) (hd:distinct rs=true) (ag: (dJ bg r gs c k).run C ⟨T,O⟩=some p):
   yq Y μf μ1 C T (fun j=>U j∨(bg=true∧j ∈ rs)) A φ O k p fun φ' O' c'=>ak ⟨Y.toTrEnv,after Y μ1 n bg,Y.tok⟩ (quiet μ1 φ' O') c' val:=by
 unfold dJ at ag
 split at ag
 · rename_i hp
   refine⟨A,φ,O,c,ag,ht.more fun j h=> .inl h,dp.refl _ _,fun _ h=>h,?_⟩
   cases he with
   | cell h=>
     cases h with
     | pure AU hv=>exact db (X:=Y) (μ:=μ1) (μ':=quiet μ1 φ O) rfl (fun b=>iX) hp hv
     | sl=>simp[V.aB] at hp
     | own=>simp[V.aB] at hp
   | @agg cs _ vals hc h=>
     have AU:V.aq cs=true:=by simpa [V.aB] using hp
     obtain⟨hv,_⟩:=h.bP AU
     simp only[ak]
     exact⟨gO AU hc,_,rfl,bA (X:=Y) (μ:=μ1) (μ':=quiet μ1 φ O) rfl (fun b=>iX) AU hv⟩
 · cases he with
   | cell h=>
     cases h with
     | pure hp hv=>rename_i Y2;exact absurd hp Y2
     | sl hr bl hg hl hv=>
       obtain⟨A1,φ1,O1,c1,k1,k2,k3,k4,k5,k6⟩:=gN h1 ht ht.lo zO (.sl hr bl hg hl hv) hU ag
       exact⟨A1,φ1,O1,c1,k1,k2,k3,k4,k5⟩
     | own hr bl fN hg hl hp hv=>
       obtain⟨A1,φ1,O1,c1,k1,k2,k3,k4,k5,k6⟩:=gN h1 ht ht.lo zO (.own hr bl fN hg hl hp hv) hU ag
       exact⟨A1,φ1,O1,c1,k1,k2,k3,k4,k5⟩
   | agg hc h=>
     obtain⟨A1,φ1,O1,c1,k1,k2,k3,k4,k5,k6⟩:=qC h1 ht zO h hU hd ag
     refine⟨A1,φ1,O1,_,k1,k2,k3,k4,?_⟩
     simp only[ak]
     exact⟨k6 hc,_,rfl,k5⟩
theorem vc (h1:bc Y μ1): ∀ {U:Nat→Prop} {A:Nat→Option Nat} {φ:Nat→Row} {O:Nat→Obj} {gs:List (Nat×Nat×Nat)} {cs:List V} {rs:List Nat} {vals:List Value} {r:Nat} {k:List V→Act} {p:V×St},
   eL Y μf μ1 U A φ O→(∀x ∈ gs,lP μ1 φ O x.1 x.2.1 x.2.2)→qA Y μ1 n cs rs vals→(∀j ∈ rs,n≤j→ ¬U j)→distinct rs=true→(dx bg r gs cs k).run C ⟨T,O⟩=some p→
   yq Y μf μ1 C T (fun j=>U j∨(bg=true∧j ∈ rs)) A φ O k p fun φ' O' ct=>aj ⟨Y.toTrEnv,after Y μ1 n bg,Y.tok⟩ (quiet μ1 φ' O') ct vals:=by
 intro U A φ O gs cs rs vals r k p ht zO he hU hd ag
 induction he generalizing U A φ O r k with
 | nil=>exact⟨A,φ,O,[],ag,ht.more fun j h=> .inl h,dp.refl _ _,fun _ h=>h,by simp[aj]⟩
 | @cons c rs rs' val cs vals h hs ih=>
   obtain⟨d1,d2,d3⟩:=iA hd
   simp only[dx] at ag
   obtain⟨A1,φ1,O1,c1,k1,k2,k3,k4,k5⟩:=oy h1 ht zO h (fun j hj=>hU j (by simp[hj])) d1 ag
   obtain⟨A2,φ2,O2,cs2,m1,m2,m3,m4,m5⟩:=ih k2 (fun x hx=> (zO x hx).mono k3) (fun j hj hn hu=>by
     rcases hu with hu| ⟨_,hu⟩
     · exact hU j (by simp[hj]) hn hu
     · exact d3 j hj hu) d2 k1
   refine⟨A2,φ2,O2,c1::cs2,m1,m2.more fun j hj=> ?_,k3.trans m3,fun r' h=>m4 r' (k4 r' h),?_⟩
   · rcases hj with(hj| ⟨e,hj⟩) | ⟨e,hj⟩
     · exact .inl hj
     · exact .inr ⟨e,by simp[hj]⟩
     · exact .inr ⟨e,by simp[hj]⟩
   · simp only[aj];exact⟨ak.mono (Af m3) k5,m5⟩
theorem qA.bP {cs:List V} {rs:List Nat} {vals:List Value} (h:qA Y μ1 n cs rs vals) (hp:V.aq cs=true):aj Y μ1 cs vals∧rs=[]:=by
 induction h with
 | nil=>simp[aj]
 | cons h hs ih=>
   simp only[V.aq,Bool.and_eq_true] at hp
   obtain⟨i1,i2⟩:=ih hp.2
   cases h with
   | cell h=>
     cases h with
     | pure AU hv=>simp only[aj];exact⟨⟨hv,i1⟩,by simpa using i2⟩
     | sl=>simp[V.aB] at hp
     | own=>simp[V.aB] at hp
   | @agg cs _ vals hc h=>
     have AU:V.aq cs=true:=by simpa [V.aB] using hp.1
     obtain⟨hv,e⟩:=h.bP AU
     subst e
     simp only[aj,ak]
     exact⟨⟨⟨gO AU hc,_,rfl,hv⟩,i1⟩,by simpa using i2⟩
end
end Go.AM
namespace Go.AM
open Go Go.RowKit
mutual
theorem jw: ∀ {x:V},V.isScalar x=true→V.aB x=true
 | .bool _,_| .int ..,_| .float _,_| .str _,_| .nilp,_| .nilfn,_| .nili,_| .nils,_=>rfl
 | .any,hp| .own ..,hp| .msl ..,hp| .mptr ..,hp| .sl ..,hp| .ptr ..,hp| .lit ..,hp| .eptr ..,hp| .litk ..,hp| .epk ..,hp| .mp ..,hp| .it ..,hp| .mlit ..,hp| .fn ..,hp| .bfn ..,hp| .iface ..,hp=>by simp[V.isScalar] at hp
 | .agg cs,hp=>by simpa [V.aB] using eV (by simpa [V.isScalar] using hp)
 | .tuple cs,hp=>by simpa [V.aB] using eV (by simpa [V.isScalar] using hp)
theorem eV: ∀ {xs:List V},V.bb xs=true→V.aq xs=true
 | [],_=>rfl
 | x::xs,hp=>by
   simp only[V.bb,Bool.and_eq_true] at hp
   simp only[V.aq,Bool.and_eq_true]
   exact⟨jw hp.1,eV hp.2⟩
end
section
variable {Y:Ctx} {μf μ1:Mu} {n:Nat} {bg:Bool} {C:a9} {T:Nat→V}
def Jw (Y:Ctx) (μ:Mu) (n:Nat) (v:V) (rs:List Nat) (val:Value):Prop:=
 Ek Y μ n v rs val∨ ∃vs us,v= .tuple vs∧val= .tuple us∧qA Y μ n vs rs us.toList
theorem cR.XW (h1:bc Y μ1) {T':Nat→V} {v0 v:V} {rs:List Nat} {val:Value} (hv:ak Y μ1 v0 val) (h:cR n ⟨T',μ1.O⟩ v0 v rs):Jw Y μ1 n v rs val:=by
 cases h with
 | one h=>exact .inl (ou h1 hv h)
 | many h=>
   simp only[ak] at hv
   obtain⟨us,rfl,hv⟩:=hv
   exact .inr ⟨_,us,rfl,rfl,mQ h1 hv h⟩
theorem Jw.pure {v:V} {rs:List Nat} {val:Value} (h:Jw Y μ1 n v rs val) (hp:V.aB v=true):ak Y μ1 v val:=by
 rcases h with h| ⟨vs,us,rfl,rfl,h⟩
 · have hs:qA Y μ1 n [v] (rs++[]) [val]:= .cons h .nil
   have:=(hs.bP (by simp[V.aq,hp])).1
   simp only[aj] at this
   exact this.1
 · simp only[ak]
   exact⟨us,rfl,(h.bP (by simpa [V.aB] using hp)).1⟩
theorem sV (h1:bc Y μ1) {U:Nat→Prop} {A:Nat→Option Nat} {φ:Nat→Row} {O:Nat→Obj} {gs:List (Nat×Nat×Nat)} {c v:V} {rs:List Nat} {val:Value} {r:Nat} {σ':St}
   (ht:eL Y μf μ1 U A φ O) (zO: ∀x ∈ gs,lP μ1 φ O x.1 x.2.1 x.2.2) (he:Jw Y μ1 n c rs val) (hU: ∀j ∈ rs,n≤j→ ¬U j) (hd:distinct rs=true) (ag: (bT bg r gs c .done).run C ⟨T,O⟩=some (v,σ')):
   σ'.T=T∧((V.aB c=true∧v=c∧σ'.O=O∧ak Y μ1 c val)∨ ∃A' φ',eL Y μf μ1 (fun j=>U j∨(bg=true∧j ∈ rs)) A' φ' σ'.O∧dp φ O φ' σ'.O∧(∀r,A r≠none→A' r≠none)∧ak ⟨Y.toTrEnv,after Y μ1 n bg,Y.tok⟩ (quiet μ1 φ' σ'.O) v val):=by
 unfold bT at ag
 split at ag
 · rename_i hp
   obtain⟨rfl,rfl⟩:=aR ag
   exact⟨rfl,.inl ⟨hp,rfl,rfl,he.pure hp⟩⟩
 · rename_i Y2
   split at ag
   · rename_i vs
     rcases he with he| ⟨vs',us,e,rfl,he⟩
     · cases he with
       | cell h=>
         cases h with
         | pure hp hv=>exact absurd hp Y2
     · injection e with e;subst e
       obtain⟨A1,φ1,O1,c1,k1,k2,k3,k4,k5⟩:=vc h1 ht zO he hU hd ag
       obtain⟨rfl,rfl⟩:=aR k1
       refine⟨rfl,.inr ⟨A1,φ1,k2,k3,k4,?_⟩⟩
       simp only[ak]
       exact⟨us,rfl,k5⟩
   · rename_i hnt
     rcases he with he| ⟨vs',us,e,rfl,he⟩
     · obtain⟨A1,φ1,O1,c1,k1,k2,k3,k4,k5⟩:=oy h1 ht zO he hU hd ag
       obtain⟨rfl,rfl⟩:=aR k1
       exact⟨rfl,.inr ⟨A1,φ1,k2,k3,k4,k5⟩⟩
     · exact absurd e (hnt vs')
end
section
variable {X:Ctx} {μ μ1:Mu} {r0:Nat}
theorem rI {as:List V} {vals:List Value} {rs:List Nat} {ws:List df} (ho:bc X μ) (hp:jr X μ r0 0 as vals rs ws)
   (le:Le ⟨μ.w,dQ μ.φ ws,(enter as).O⟩ μ1) (h1:bc ⟨X.toTrEnv,cF X μ rs ws,X.tok⟩ μ1) {Of:Nat→Obj} (hf:bc X ⟨μ.w,μ.φ,Of⟩) (K6: ∀w ∈ ws,Of w.r=μ.O w.r)
   {U:Nat→Prop} {A:Nat→Option Nat} {φ:Nat→Row} {O:Nat→Obj} (ht:eL ⟨X.toTrEnv,cF X μ rs ws,X.tok⟩ ⟨μ.w,μ.φ,Of⟩ μ1 U A φ O) (hm:dp μ.φ Of φ O) (hA: ∀w ∈ ws,A w.r≠none)
   (hT: ∀j,U j→((∀es,(μ1.O j).es=some es→V.bb es=true))∨ ∀b,Own X ⟨μ1.w,φ,O⟩ b→Own ⟨X.toTrEnv,cF X μ rs ws,X.tok⟩ μ1 b):
   Le ⟨μ.w,μ.φ,Of⟩ ⟨μ1.w,φ,O⟩∧bc X ⟨μ1.w,φ,O⟩:=by
 have K8: ∀b,(⟨μ.w,dQ μ.φ ws,(enter as).O⟩:Mu).own b→ ∃w ∈ ws,(Of w.r).es.isSome=true∧(Of w.r).fz=false∧(μ.φ w.r).cap≠0∧(μ.φ w.r).cK=b:=fun b hb=>by
   obtain⟨i,r,k1,k2,k3,k4,k5⟩:=rF hp hb
   have e:=K6 _ k1
   simp only at e
   exact⟨_,k1,by rw[e];exact k2,by rw[e];exact k3,k4,k5⟩
 have XX: ∀j,(μ1.O j).es.isSome=true∧(μ1.O j).fz=false→(μ1.φ j).cap≠0→μ1.own (μ1.φ j).cK:=fun j hl hc=> ⟨j,hl.1,hl.2,hc,rfl⟩
 have kept: ∀r,A r=none→(Of r).es.isSome=true→(μ.φ r).cap≠0→(μ.φ r).cK<μ.w.heap.size∧μ1.w.heap[(μ.φ r).cK]? =μ.w.heap[(μ.φ r).cK]? ∧ ¬μ1.own (μ.φ r).cK:=fun r hr hs hc=>by
   obtain⟨es,he⟩:=Option.isSome_iff_exists.1 hs
   have bp: (μ.φ r).cK<μ.w.heap.size:=eJ.cK (μ:=⟨μ.w,μ.φ,Of⟩) (hf.ok r es he) hc
   have eh: ¬ (⟨μ.w,dQ μ.φ ws,(enter as).O⟩:Mu).own (μ.φ r).cK:=fun hb=>by
     obtain⟨w,k1,k2,k3,k4,k5⟩:=K8 _ hb
     have cO:w.r≠r:=fun e=>hA w k1 (e ▸ hr)
     exact hf.inj w.r r cO k2 hs k4 hc k5
   obtain⟨l1,l2⟩:=le.bZ _ bp eh
   exact⟨bp,l1,l2⟩
 have aaF: ∀b,(⟨μ1.w,φ,O⟩:Mu).own b→(⟨μ.w,μ.φ,Of⟩:Mu).own b∨μ1.own b:=fun b hb=>by
   obtain⟨r,k1,k2,k3,k4⟩:=hb
   simp only at k1 k2 k3 k4
   cases e:A r with
   | none=>
     obtain⟨n1,n2⟩:=ht.qy r e
     rw[n1] at k1 k2
     rw[n2] at k3 k4
     exact .inl ⟨r,k1,k2,k3,k4⟩
   | some j=>
     obtain⟨t,_⟩:=ht.w4 r j e
     obtain⟨b1,b2⟩:=t.cK k3
     exact .inr ⟨j,t.live.1,t.live.2,b1,by rw[←b2];exact k4⟩
 have LE:Le ⟨μ.w,μ.φ,Of⟩ ⟨μ1.w,φ,O⟩:=by
   refine⟨le.size,fun b hb eh=> ?_,fun r=> (hm r).1,fun r e=> (hm r).2 e,le.os,le.output,le.tape,le.frozen⟩
   have aaG: ¬ (⟨μ.w,dQ μ.φ ws,(enter as).O⟩:Mu).own b:=fun ru=>by
     obtain⟨w,k1,k2,k3,k4,k5⟩:=K8 _ ru
     exact eh ⟨w.r,k2,k3,k4,k5⟩
   obtain⟨l1,l2⟩:=le.bZ b hb aaG
   exact⟨l1,fun h3=> (aaF b h3).elim eh l2⟩
 refine⟨LE,fun r es bl=> ?_,fun r1 r2 cO e1 e2 e3 e4 e5=> ?_,fun r k1 k2 hb=> ?_,fun b hb=>Nat.lt_of_lt_of_le (ho.blt b hb) le.size⟩
 · simp only at bl
   cases e:A r with
   | none=>
     obtain⟨n1,n2⟩:=ht.qy r e
     simp only at n1 n2
     rw[n1] at bl
     exact eJ.bZ (r:=r) (r':=r) LE (hf.ok r es bl) (by simp[n1]) (by simp[n2]) (fun hc=> (kept r e (by simp[bl]) hc).2.1)
   | some j=>
     obtain⟨t,hu⟩:=ht.w4 r j e
     obtain⟨es',s0,s1,s2,s3,s4,s5⟩:=t.es
     rw[bl] at s0;injection s0 with s0;subst s0
     left
     unfold jN
     simp only
     refine⟨s2,s3,s4,s5.imp id ?_⟩
     rintro⟨c,TT,vs,p1,p2,p3,p4⟩
     refine⟨c,TT,vs,p1,p2,?_,p4⟩
     rcases hT j hu with hs| hs
     · exact dU (X:=⟨X.toTrEnv,cF X μ rs ws,X.tok⟩) (μ:=μ1) (X':=X) (μ':=⟨μ1.w,φ,O⟩) rfl (t.sc hs _ bl) p3
     · exact bA (X:=⟨X.toTrEnv,cF X μ rs ws,X.tok⟩) (μ:=μ1) (B:=X.KO) (μ':=⟨μ1.w,φ,O⟩) rfl hs s1 p3
 · simp only at e1 e2 e3 e4 e5
   cases a1:A r1 with
   | none=>
     obtain⟨n1,n2⟩:=ht.qy r1 a1
     simp only at n1 n2
     rw[n1] at e1;rw[n2] at e3 e5
     cases a2:A r2 with
     | none=>
       obtain⟨m1,m2⟩:=ht.qy r2 a2
       simp only at m1 m2
       rw[m1] at e2;rw[m2] at e4 e5
       exact hf.inj r1 r2 cO e1 e2 e3 e4 e5
     | some j=>
       obtain⟨t,_⟩:=ht.w4 r2 j a2
       obtain⟨b1,b2⟩:=t.cK e4
       exact(kept r1 a1 e1 e3).2.2 (by rw[e5,b2];exact XX j t.live b1)
   | some j=>
     obtain⟨t,_⟩:=ht.w4 r1 j a1
     obtain⟨b1,b2⟩:=t.cK e3
     cases a2:A r2 with
     | none=>
       obtain⟨m1,m2⟩:=ht.qy r2 a2
       simp only at m1 m2
       rw[m1] at e2;rw[m2] at e4 e5
       exact(kept r2 a2 e2 e4).2.2 (by rw[←e5,b2];exact XX j t.live b1)
     | some j2=>
       obtain⟨t2,_⟩:=ht.w4 r2 j2 a2
       obtain⟨c1,c2⟩:=t2.cK e4
       refine h1.inj j j2 (fun e=>cO (ht.inj r1 r2 j a1 (e ▸ a2))) t.live.1 t2.live.1 b1 c1 ?_
       rw[←b2,←c2];exact e5
 · simp only at k1 k2 hb
   cases a1:A r with
   | none=>
     obtain⟨n1,n2⟩:=ht.qy r a1
     simp only at n1 n2
     rw[n1] at k1;rw[n2] at k2 hb
     exact hf.qJ r k1 k2 hb
   | some j=>
     obtain⟨t,_⟩:=ht.w4 r j a1
     obtain⟨b1,b2⟩:=t.cK k2
     exact h1.qJ j t.live.1 b1 (.inl (b2 ▸ hb))
end
end Go.AM
namespace Go.AM
open Go Go.RowKit
section
variable {X:Ctx} {μ μ1:Mu} {r0:Nat} {C:a9} {T:Nat→V}
theorem BY {r:Nat} {bg:Bool} {v:V} (h:oG r bg v=true): ∃sz xs,v= .own sz xs∧bg=false∧V.bb xs=true:=by
 cases v<;>simp[oG] at h
 rename_i sz xs
 exact⟨sz,xs,rfl,h.2.1,h.2.2⟩
theorem Jy {as:List V} {vals:List Value} {rs:List Nat} {ws:List df} (ho:bc X μ) (hp:jr X μ r0 0 as vals rs ws)
   (le:Le ⟨μ.w,dQ μ.φ ws,(enter as).O⟩ μ1) (h1:bc ⟨X.toTrEnv,cF X μ rs ws,X.tok⟩ μ1) {U:Nat→Prop} {A:Nat→Option Nat} {φ:Nat→Row} {O:Nat→Obj}
   (ht:eL ⟨X.toTrEnv,cF X μ rs ws,X.tok⟩ ⟨μ.w,μ.φ,μ.O⟩ μ1 U A φ O) (hA: ∀w ∈ ws,A w.r≠none) {n:Nat} (hU: ∀j,U j→j<n) {sz:Nat} {xs:List V} {refs:List Nat} {val:Value}
   (he:Jv ⟨X.toTrEnv,cF X μ rs ws,X.tok⟩ μ1 n (.own sz xs) refs val) (hs:V.bb xs=true):ak X ⟨μ1.w,φ,O⟩ (.lit sz xs) val:=by
 cases he with
 | pure kb _=>simp[V.aB] at kb
 | @own r g off len es _ hr bl fN hg hl kb h=>
   simp only[ak] at h
   obtain⟨a0,cap,rfl,hle,_,bY⟩:=h
   obtain⟨z1,z2,z3⟩:=bY hg
   obtain⟨q1,q2,q3,q4⟩:=h1.row r es bl z1
   have lV: (aJ es off len).length=len:=by simp[aJ];omega
   simp only[ak]
   refine⟨kb,?_,a0,cap,?_⟩
   · simp only[List.all_eq_true] at q3 ⊢
     exact fun x hx=> (bE (q3 x (List.mem_of_mem_drop (List.mem_of_mem_take hx)))).1
   by_cases cE:cap=0
   · have:len=0:=by omega
     subst this
     refine⟨[],by rw[lV],by rw[lV];omega,?_,.inl ?_⟩
     · simp[aJ,aj]
     · simp[aJ]
   have eB: (μ1.φ r).cap≠0:=by omega
   rcases q4 with q4| ⟨cc,TT,vs,p1,p2,p3,p4⟩
   · exact absurd q4 eB
   have p3':=dU (X:=⟨X.toTrEnv,cF X μ rs ws,X.tok⟩) (μ:=μ1) (X':=X) (μ':=⟨μ1.w,φ,O⟩) rfl hs (aj.take len (aj.drop off p3))
   refine⟨(vs.drop off).take len,by rw[lV],by rw[lV];omega,p3',.inr ⟨_,_,z3.resolve_left cE,?_,(Array.getElem?_eq_some_iff.1 p1).1,(p4.drop off).take len⟩⟩
   have fF:μ1.own (μ1.φ r).cK:=⟨r,by simp[bl],fN,eB,rfl⟩
   rintro(⟨r',e1,e2,e3,e4⟩ | BF)
   · simp only at e1 e2 e3 e4
     cases e:A r' with
     | none=>
       obtain⟨n1,n2⟩:=ht.qy r' e
       simp only at n1 n2
       rw[n1] at e1 e2
       rw[n2] at e3 e4
       obtain⟨es',eS⟩:=Option.isSome_iff_exists.1 e1
       have bp: (μ.φ r').cK<μ.w.heap.size:=eJ.cK (μ:=⟨μ.w,μ.φ,μ.O⟩) (ho.ok r' es' eS) e3
       have eh: ¬ (⟨μ.w,dQ μ.φ ws,(enter as).O⟩:Mu).own (μ.φ r').cK:=fun hb=>by
        obtain⟨i,r2,k1,k2,k3,k4,k5⟩:=rF hp hb
        have cO:r2≠r':=fun e'=>hA _ k1 (by rw[←e] ;exact congrArg A e')
        exact ho.inj r2 r' cO k2 e1 k4 e3 k5
       exact(le.bZ _ bp eh).2 (by rw[e4];exact fF)
     | some j=>
       obtain⟨t,hu⟩:=ht.w4 r' j e
       obtain⟨b1,b2⟩:=t.cK e3
       have hj:=hU j hu
       exact h1.inj j r (by omega) t.live.1 (by simp[bl]) b1 eB (by rw[←b2];exact e4)
   · exact h1.qJ r (by simp[bl]) eB (.inl BF)
theorem w5 {as:List V} {vals:List Value} {rs:List Nat} {ws:List df} (ho:bc X μ) (hp:jr X μ r0 0 as vals rs ws) (Em:apart rs (ws.map (·.r))=true) (hd:distinct (ws.map (·.r))=true)
   (le:Le ⟨μ.w,dQ μ.φ ws,(enter as).O⟩ μ1) (h1:bc ⟨X.toTrEnv,cF X μ rs ws,X.tok⟩ μ1) {res:dk} {refs:List Nat} {v0:V} {val:Value} {T':Nat→V} (hv:ak ⟨X.toTrEnv,cF X μ rs ws,X.tok⟩ μ1 v0 val)
   (aaH:cR as.length ⟨T',μ1.O⟩ v0 res.val refs) (FK:distinct refs=true) (Hk:bO μ1.O 0 as=some res.outs) {bg:Bool} {r:Nat} {v:V} {σ':St}
   (ag: (if (res.val.isScalar || oG r bg res.val) &&res.outs.all (fun o=>V.bb o.2) then cn ws res.outs fun gs=>bT bg r gs res.val .done else b7 rs (cn ws res.outs fun gs=>bT bg r gs res.val .done)).run C ⟨T,μ.O⟩=some (v,σ')):
   σ'.T=T∧ ∃φ',ak X ⟨μ1.w,φ',σ'.O⟩ v val∧Le μ ⟨μ1.w,φ',σ'.O⟩∧bc X ⟨μ1.w,φ',σ'.O⟩:=by
 have hR:=aaH.XW h1 hv
 have hi:=hp.inc
 have fR: ∀w ∈ ws,w.fresh=none→(μ1.O w.i).gen=0→μ1.φ w.i=μ.φ w.r:=fun w hw Jz hg=>by
   have Jj: ((enter as).O w.i).gen=0:=by
     rcases iW hp w.i with h| ⟨_,_,_,_,_,_,h,_⟩ | ⟨_,_,_,h,_⟩
     · rw[h];rfl
     · exact h
     · exact h
   obtain⟨e1,_⟩:=le.row w.i (by rw[hg];exact Jj.symm)
   rw[e1]
   have:=gM (φ:=μ.φ) hi w hw
   rw[Jz] at this
   exact this
 have start: ∀ (Of:Nat→Obj) (S:Nat→Prop),eL ⟨X.toTrEnv,cF X μ rs ws,X.tok⟩ ⟨μ.w,μ.φ,Of⟩ μ1 (fun j=>j< 0∧S j) (fun _=>none) μ.φ Of:=fun Of S=>
   ⟨fun _ _=> ⟨rfl,rfl⟩,fun _ _ e=>by simp at e,fun _ _ _ e=>by simp at e⟩
 split at ag
 · rename_i hsc
   simp only[Bool.and_eq_true,Bool.or_eq_true] at hsc
   obtain⟨nO,vP⟩:=hsc
   have hS: ∀w ∈ ws,∀es,(μ1.O w.i).es=some es→V.bb es=true:=fun w hw es he=>by
     obtain⟨g,es',k1,k2⟩:=Hj hp Hk w hw
     rw[he] at k1;injection k1 with k1;subst k1
     exact(List.all_eq_true.1 vP) _ k2
   obtain⟨A,φ,O,gs,k1,k2,k3,k4,k5,k6⟩:=ox (μf:=⟨μ.w,μ.φ,μ.O⟩) h1 fR rfl (fun _ _=>rfl) (S:=fun j=> ∀es,(μ1.O j).es=some es→V.bb es=true) hS hp Hk (start μ.O _) (fun w hw=>hw) (fun _ _=>rfl) hd ag
   obtain⟨b1,b2⟩:=rI ho hp le h1 (Of:=μ.O) ho (fun _ _=>rfl) k2 k3 k4 (fun j hj=> .inl hj.2)
   rcases nO with nO| nO
   rotate_left
   · obtain⟨sz,xs,vd,Y7,hsx⟩:=BY nO
     subst Y7
     rw[vd] at k1 hR
     have he:Jv ⟨X.toTrEnv,cF X μ rs ws,X.tok⟩ μ1 as.length (.own sz xs) refs val:=by
       rcases hR with hR| ⟨vs,us,e,_⟩
       · cases hR with
         | cell h=>exact h
       · exact nomatch e
     have yO:=Jy (n:=as.length) ho hp le h1 k2 k4 (fun j hj=>by have:=hj.1;omega) he hsx
     simp only[bT,dJ,bL,V.aB,Bool.false_eq_true,if_false] at k1
     obtain⟨rfl,rfl⟩:=aR k1
     exact⟨rfl,φ,yO,b1,b2⟩
   have kb:=jw nO
   unfold bT at k1
   rw[if_pos kb] at k1
   obtain⟨rfl,rfl⟩:=aR k1
   exact⟨rfl,φ,lO (X:=⟨X.toTrEnv,cF X μ rs ws,X.tok⟩) (μ:=μ1) (X':=X) (μ':=⟨μ1.w,φ,O⟩) rfl nO (hR.pure kb),b1,b2⟩
 · obtain⟨Of,f1,f2,f3,f4,f5⟩:=iy (X:=X) (w:=μ.w) (φ:=μ.φ) rs ho ag
   have K6: ∀w ∈ ws,Of w.r=μ.O w.r:=fun w hw=>f4 _ fun hr=>by
     have:=List.all_eq_true.1 Em w.r (List.mem_map.2 ⟨w,hw,rfl⟩)
     simp[hr] at this
   obtain⟨A,φ,O,gs,k1,k2,k3,k4,k5,k6⟩:=ox (μf:=⟨μ.w,μ.φ,Of⟩) h1 fR rfl K6 (S:=fun _=>True) (fun _ _=>trivial) hp Hk (start Of _) (fun w hw=>hw) (fun _ _=>rfl) hd f1
   obtain⟨hT,kL⟩:=sV h1 k2 k6 hR (fun j _ hn hu=>by have:=hu.1;omega) FK k1
   have XY: ∀ {U:Nat→Prop} {A:Nat→Option Nat} {φ:Nat→Row} {O:Nat→Obj},eL ⟨X.toTrEnv,cF X μ rs ws,X.tok⟩ ⟨μ.w,μ.φ,Of⟩ μ1 U A φ O→(∀w ∈ ws,A w.r≠none)→(∀j,U j→bg=true∨j<as.length)→
       ∀b,Own X ⟨μ1.w,φ,O⟩ b→after ⟨X.toTrEnv,cF X μ rs ws,X.tok⟩ μ1 as.length bg b:=by
     intro U A φ O ht hA hU b hb
     rcases hb with⟨r',q1,q2,q3,q4⟩ | hb
     · simp only at q1 q2 q3 q4
       cases e:A r' with
       | none=>
         obtain⟨n1,n2⟩:=ht.qy r' e
         simp only at n1 n2
         rw[n1] at q1 q2;rw[n2] at q3 q4
         have MJ:r' ∉ rs:=fun h=>by rw[f5 r' h] at q2;simp at q2
         have ph:r' ∉ ws.map (·.r):=fun h=>by
          obtain⟨w,hw,e'⟩:=List.mem_map.1 h
          exact hA w hw (by rw[e'];exact e)
         rw[f4 r' MJ] at q1 q2
         exact .inl (.inr ⟨r',MJ,ph,q1,q2,q3,q4⟩)
       | some j=>
         obtain⟨t,hu⟩:=ht.w4 r' j e
         obtain⟨b1,b2⟩:=t.cK q3
         exact .inr ⟨j,hU j hu,t.live.1,t.live.2,b1,by rw[←b2];exact q4⟩
     · exact .inl (.inl hb)
   refine⟨hT,?_⟩
   rcases kL with⟨kb,rfl,hO,hvv⟩ | ⟨A',φ',m1,m2,m3,m4⟩
   · have fF:=XY k2 k4 (fun j hj=> .inr (by have:=hj.1;omega))
     have C5: ∀b,Own X ⟨μ1.w,φ,O⟩ b→Own ⟨X.toTrEnv,cF X μ rs ws,X.tok⟩ μ1 b:=fun b hb=>iX (φ:=φ) (O:=O) (.inr (fF b hb))
     obtain⟨b1,b2⟩:=rI ho hp le h1 (Of:=Of) f3 K6 k2 k3 k4 (fun j hj=> .inr C5)
     rw[hO]
     exact⟨φ,db (X:=⟨X.toTrEnv,cF X μ rs ws,X.tok⟩) (μ:=μ1) (B:=X.KO) (μ':=⟨μ1.w,φ,O⟩) rfl C5 kb hvv,f2.trans b1,b2⟩
   · have hA': ∀w ∈ ws,A' w.r≠none:=fun w hw=>m3 _ (k4 w hw)
     have fF:=XY m1 hA' (fun j hj=>hj.elim (fun h=> .inr (by have:=h.1;omega)) fun h=> .inl h.1)
     have C5: ∀b,Own X ⟨μ1.w,φ',σ'.O⟩ b→Own ⟨X.toTrEnv,cF X μ rs ws,X.tok⟩ μ1 b:=fun b hb=>iX (φ:=φ') (O:=σ'.O) (.inr (fF b hb))
     obtain⟨b1,b2⟩:=rI ho hp le h1 (Of:=Of) f3 K6 m1 (k3.trans m2) hA' (fun j hj=> .inr C5)
     refine⟨φ',weaken (X:=⟨X.toTrEnv,after ⟨X.toTrEnv,cF X μ rs ws,X.tok⟩ μ1 as.length bg,X.tok⟩) (μ:=quiet μ1 φ' σ'.O) (X':=X) (μ':=⟨μ1.w,φ',σ'.O⟩) rfl rfl rfl rfl (fun _=> ⟨rfl,rfl⟩) (fun b hb=> .inr (fF b hb)) m4,f2.trans b1,b2⟩
end
end Go.AM
namespace Go.AM
open Go Go.RowKit
section
variable {X:Ctx} {E:Env} {C:a9} {o:Oper} {a:Go.Act} {T:Nat→V} {μ:Mu} {v:V} {σ':St}
theorem K9 {C:a9} {act:Act}: ∀ {σ σ':St} {v:V},act.run C σ=some (v,σ')→σ'.T=σ.T:=by
 induction act with
 | done u=>intro σ σ' v h;obtain⟨_,rfl⟩:=aR h;rfl
 | fail=>intro σ σ' v h;exact absurd h av
 | lQ t k ih=>intro σ σ' v h;exact ih _ h
 | bG r k ih=>intro σ σ' v h;exact ih _ h
 | bo r o k ih=>intro σ σ' v h;have:=ih h;simpa using this
 | call f as k ih=>
   intro σ σ' v h
   simp only[Act.run] at h
   split at h
   · exact ih _ h
   · simp at h
theorem rJ {h:Rel X T a μ} (O:Nat→Obj): ∀ {xs:List Operand} {ys:List aQ},km X xs=some ys→aj X μ (ys.map (a8 ⟨T,O⟩)) (xs.map a.eval)
 | [],ys,e=>by simp[km] at e;subst e;simp[aj]
 | x::xs,ys,e=>by
   simp only[km] at e
   split at e
   · rename_i y ZQ h1 h2
     injection e with e;subst e
     simp only[List.map_cons,aj]
     exact⟨aL h h1 O,rJ (h:=h) O h2⟩
   · simp at e
theorem Hl (  hC: ∀f F as res,X.gq F=some f→C f as=some res→cH X.toTrEnv F as res) {h:Hints} {dst:Nat} {c:Call} {nT:rP} (hr:Rel X T a μ) (ho:o.op= .call c) (aM:uy X h dst c=some nT) (zY:nT.gL=true)
   (ag: (aw E nT).run C ⟨T,μ.O⟩=some (v,σ')):σ'.T=T∧ ∀ (next:Go.Act→World→Prop) (Q:Go.Exit→Go.Act→World→Prop),
   (∀val w' φ',ak X ⟨w',φ',σ'.O⟩ v val→Le μ ⟨w',φ',σ'.O⟩→bc X ⟨w',φ',σ'.O⟩→next (a.put o.dst val) w')→o.wp X.P a μ.w next Q:=by
 unfold uy at aM
 split at aM
 · rename_i f XZ
   split at aM
   · rename_i f' YY hf has
     injection aM with aM;subst aM
     simp only[aw,bd] at ag
     split at ag
     · rename_i f0 caps Lr
       rw[lz] at ag
       have Jz:=aL hr hf μ.O
       rw[Lr] at Jz
       simp only[ak] at Jz
       obtain⟨F,cv,hF,Hi,C4⟩:=Jz
       have fq:=(rJ (h:=hr) μ.O has).append C4
       simp only[gE] at ag
       obtain⟨as,rs,ws,h1,hp⟩:=dG hr.aY fq ag
       split at h1
       · rename_i qt
         simp only[Bool.and_eq_true] at qt
         obtain⟨Em,hd⟩:=qt
         simp only[Act.run] at h1
         split at h1
         · rename_i res kL
           have hS:=hC f0 F as res Hi kL
           obtain⟨e1,e2,e3⟩:=sx hr.aY hp Em hd
           have hU:=hS (cF X μ rs ws) X.tok μ.w (dQ μ.φ ws) _ e1 e2 e3
           have iF: (execOp a.eval o).run X.P μ.w=(callFunc F (List.map a.eval c.args.toList++cv.toList).toArray).run X.P μ.w:=by
            have IC: (c.args.map a.eval)++cv=(List.map a.eval c.args.toList++cv.toList).toArray:=by
             apply Array.toList_inj.1;simp
            simp only[execOp,ho,resolve,XZ,hF,Deferred.ofValue,Sem.run_bind]
            rw[←IC]
            simp[invoke,Sem.run]
           have key: ∀val w',(∃φ' T' O' v0 refs,Le ⟨μ.w,dQ μ.φ ws,(enter as).O⟩ ⟨w',φ',O'⟩∧bc ⟨X.toTrEnv,cF X μ rs ws,X.tok⟩ ⟨w',φ',O'⟩∧
             ak ⟨X.toTrEnv,cF X μ rs ws,X.tok⟩ ⟨w',φ',O'⟩ v0 val∧cR as.length ⟨T',O'⟩ v0 res.val refs∧distinct refs=true∧bO O' 0 as=some res.outs)→
             σ'.T=T∧ ∃φ',ak X ⟨w',φ',σ'.O⟩ v val∧Le μ ⟨w',φ',σ'.O⟩∧bc X ⟨w',φ',σ'.O⟩:=by
            rintro val w' ⟨φ',T',O',v0,refs,k1,k2,k3,k4,k5,k6⟩
            exact w5 hr.aY hp Em hd k1 k2 k3 k4 k5 k6 h1
           have hTT:σ'.T=T:=K9 h1
           refine⟨hTT,fun next Q hn=> ?_⟩
           unfold Oper.wp
           rw[iF]
           exact hU.upon fun val w' hv=>by
            obtain⟨_,φ',q1,q2,q3⟩:=key val w' hv
            exact hn val w' φ' q1 q2 q3
         · simp at h1
       · exact absurd h1 av
     · rename_i f0 caps Lr
       rw[lz] at ag
       have Jz:=aL hr hf μ.O
       rw[Lr] at Jz
       simp only[ak] at Jz
       obtain⟨F,cv,hF,Hi,C4⟩:=Jz
       have fq:=C4.append (rJ (h:=hr) μ.O has)
       simp only[gE] at ag
       obtain⟨as,rs,ws,h1,hp⟩:=dG hr.aY fq ag
       split at h1
       · rename_i qt
         simp only[Bool.and_eq_true] at qt
         obtain⟨Em,hd⟩:=qt
         simp only[Act.run] at h1
         split at h1
         · rename_i res kL
           have hS:=hC f0 F as res Hi kL
           obtain⟨e1,e2,e3⟩:=sx hr.aY hp Em hd
           have hU:=hS (cF X μ rs ws) X.tok μ.w (dQ μ.φ ws) _ e1 e2 e3
           have iF: (execOp a.eval o).run X.P μ.w=(callFunc F (cv.toList++List.map a.eval c.args.toList).toArray).run X.P μ.w:=by
            have IC:cv++(c.args.map a.eval)=(cv.toList++List.map a.eval c.args.toList).toArray:=by
             apply Array.toList_inj.1;simp
            simp only[execOp,ho,resolve,XZ,hF,Deferred.ofValue,Sem.run_bind]
            rw[←IC]
            simp[invoke,Sem.run]
           have key: ∀val w',(∃φ' T' O' v0 refs,Le ⟨μ.w,dQ μ.φ ws,(enter as).O⟩ ⟨w',φ',O'⟩∧bc ⟨X.toTrEnv,cF X μ rs ws,X.tok⟩ ⟨w',φ',O'⟩∧
             ak ⟨X.toTrEnv,cF X μ rs ws,X.tok⟩ ⟨w',φ',O'⟩ v0 val∧cR as.length ⟨T',O'⟩ v0 res.val refs∧distinct refs=true∧bO O' 0 as=some res.outs)→
             σ'.T=T∧ ∃φ',ak X ⟨w',φ',σ'.O⟩ v val∧Le μ ⟨w',φ',σ'.O⟩∧bc X ⟨w',φ',σ'.O⟩:=by
            rintro val w' ⟨φ',T',O',v0,refs,k1,k2,k3,k4,k5,k6⟩
            exact w5 hr.aY hp Em hd k1 k2 k3 k4 k5 k6 h1
           have hTT:σ'.T=T:=K9 h1
           refine⟨hTT,fun next Q hn=> ?_⟩
           unfold Oper.wp
           rw[iF]
           exact hU.upon fun val w' hv=>by
            obtain⟨_,φ',q1,q2,q3⟩:=key val w' hv
            exact hn val w' φ' q1 q2 q3
         · simp at h1
       · exact absurd h1 av
     · exact absurd ag av
   · simp at aM
 · simp at aM
 · rename_i b hc
   exfalso
   revert aM
   split<;> (try split) <;> (try split) <;> (try split) <;>simp<;> (try (intro e;subst e;simp[rP.gL] at zY)) <;> (try (intros;subst_vars;simp[rP.gL] at zY)) <;> (try (rintro rfl;simp[rP.gL] at zY))
   all_goals (split at zY<;>first| (simp at zY;done) | (split at zY<;>simp at zY) | (rename_i h9;split at h9<;>simp at h9) | (rename_i h9;unfold I8 at h9; (repeat' split at h9) <;>simp at h9))
theorem yr {op:BinOp} {t:TypeId} {x y:aQ} {nT:rP} (h:CO X op t x y=some nT):nT.gL=false:=by
 unfold CO at h
 repeat' split at h
 all_goals first
  | (injection h with h;subst h;rfl)
  | (simp only[Option.map_eq_some_iff] at h;obtain⟨_,_,rfl⟩:=h;rfl)
  | (simp at h;done)
theorem oY {α:Type} {x:Option α} {f:α→rP} {nT:rP} (h:x.map f=some nT) (hf: ∀a,(f a).gL=false):nT.gL=false:=by
 cases x with
 | none=>simp at h
 | some a=>simp at h;subst h;exact hf a
theorem vY {h:Hints} {dst:Nat} {x:Operand} {nT:rP} (ht:ux X h dst x=some nT):nT.gL=false:=by
 unfold ux at ht
 split at ht
 · injection ht with ht;subst ht;rfl
 · split at ht
   · exact oY ht fun _=>rfl
   · exact oY ht fun _=>rfl
theorem Ag {h:Hints} {dst:Nat} {op:Op} {nT:rP} (hn: ∀c,op≠ .call c) (aM:vR X h dst op=some nT):nT.gL=false:=by
 unfold vR at aM
 split at aM
 all_goals try exact absurd rfl (hn _)
 all_goals
  repeat' split at aM
  all_goals first
   | (injection aM with aM;subst aM;rfl)
   | (injection aM with aM;subst aM;split<;>rfl)
   | exact oY aM fun _=>rfl
   | exact yr aM
   | exact vY aM
   | (exfalso;simp at aM;done)
theorem BZ (lW: ∀t1 t2 k,X.iu t1=some k→X.iu t2=some k→t1=t2) (hC: ∀f F as res,X.gq F=some f→C f as=some res→cH X.toTrEnv F as res):mM X E C:=by
 intro h dst o nT a T μ v σ' gv hr aM ag
 cases hc:nT.gL with
 | true=>
   cases dj:o.op with
   | call c=>
     rw[dj] at aM
     simp only[vR] at aM
     exact Hl hC hr dj aM hc ag
   | _=>
     have:=Ag (by rw[dj];simp) aM
     rw[this] at hc;simp at hc
 | false=>
   obtain⟨hT,val,w',φ',Ah,h1,h2,h3⟩:=G0 lW gv hr aM hc ag
   refine⟨hT,fun next Q hn=> ?_⟩
   unfold Oper.wp
   rcases Ah with Ah| ⟨Ah,rfl⟩
   · rw[Ah];exact hn _ _ _ h1 h2 h3
   · rw[Ah];exact hn _ _ _ h1 h2 h3
end
end Go.AM
namespace Go.AM
open Go Go.RowKit
theorem lD: ∀l:List V,V.erases l=l.map V.erase
 | []=>rfl
 | v::vs=>by simp only[V.erases,List.map_cons,lD vs]
theorem dc (l:List V): (V.erases l).length=l.length:=by rw[lD];simp
theorem qD (v:V):v.erase.aK=v.aK:=by cases v<;>rfl
theorem Ai (v:V):v.erase.isAgg=v.isAgg:=by cases v<;>rfl
theorem jx (v:V):v.erase.cJ=v.cJ:=by unfold V.cJ;rw[Ai,qD]
theorem Aj (v:V):v.erase.cells=V.erases v.cells:=by cases v<;>rfl
theorem vZ (v:V) (sz:Nat):aO v.erase sz=aO v sz:=by unfold aO;rw[Aj,dc,jx]
theorem jy {p:V→Bool} (hp: ∀v,p v.erase=p v): ∀l:List V,(V.erases l).all p=l.all p
 | []=>rfl
 | v::vs=>by simp only[V.erases,List.all_cons,hp,jy hp vs]
mutual
theorem ef: ∀v:V,v.erase.aB=v.aB
 | .agg cs=>by simp only[V.erase,V.aB];exact cb cs
 | .tuple cs=>by simp only[V.erase,V.aB];exact cb cs
 | .mlit es=>by simp only[V.erase,V.aB];exact cb es
 | .fn f cs=>by simp only[V.erase,V.aB];exact cb cs
 | .bfn f cs=>by simp only[V.erase,V.aB];exact cb cs
 | .iface t v=>by simp only[V.erase,V.aB];exact ef v
 | .litk .. | .epk .. | .lit .. | .own .. | .eptr .. | .msl .. | .mptr .. | .bool _| .int .. | .float _| .str _| .nilp| .nilfn| .nili| .nils| .sl .. | .ptr .. | .mp .. | .it .. | .any=>rfl
theorem cb: ∀l:List V,V.aq (V.erases l)=V.aq l
 | []=>rfl
 | v::vs=>by simp only[V.erases,V.aq,ef v,cb vs]
end
theorem j8 (es:List V) (off len:Nat):aJ (V.erases es) off len=V.erases (aJ es off len):=by
 simp only[aJ,lD,List.map_take,List.map_drop]
section
variable {X X':Ctx} {μ μ':Mu}
mutual
theorem ak.erase (hX:X'.toTrEnv=X.toTrEnv) (hw:μ'.w=μ.w) (hφ:μ'.φ=μ.φ) (hO: ∀r,(μ'.O r).gen=(μ.O r).gen∧(μ'.O r).sz=(μ.O r).sz) (ho: ∀b,Own X' μ' b→Own X μ b): ∀ {x:V} {v:Value},ak X μ x v→ak X' μ' x.erase v
 | .bool _,_,h| .int ..,_,h| .float _,_,h| .str _,_,h| .nilp,_,h| .nilfn,_,h| .nili,_,h| .nils,_,h=>by simpa [V.erase,ak] using h
 | .any,_,_=>by simp[V.erase,ak]
 | .own ..,_,h| .msl ..,_,h| .mptr ..,_,h=>by simp[ak] at h
 | .agg cs,_,h=>by
   simp only[V.erase,ak] at h ⊢
   obtain⟨h1,vs,rfl,h2⟩:=h
   exact⟨by rw[jy qD];exact h1,vs,rfl,aj.erase hX hw hφ hO ho h2⟩
 | .tuple cs,_,h=>by
   simp only[V.erase,ak] at h ⊢
   obtain⟨vs,rfl,h2⟩:=h
   exact⟨vs,rfl,aj.erase hX hw hφ hO ho h2⟩
 | .bfn f cs,_,h=>by
   simp only[V.erase,ak] at h ⊢
   obtain⟨F,cv,rfl,h1,h2⟩:=h
   exact⟨F,cv,rfl,by rw[hX];exact h1,aj.erase hX hw hφ hO ho h2⟩
 | .fn f cs,_,h=>by
   simp only[V.erase,ak] at h ⊢
   obtain⟨F,cv,rfl,h1,h2⟩:=h
   exact⟨F,cv,rfl,by rw[hX];exact h1,aj.erase hX hw hφ hO ho h2⟩
 | .iface t x,_,h=>by
   simp only[V.erase,ak] at h ⊢
   obtain⟨F,y,rfl,h1,h2⟩:=h
   exact⟨F,y,rfl,by rw[hX];exact h1,ak.erase hX hw hφ hO ho h2⟩
 | .lit sz xs,_,h=>by
   simp only[V.erase,ak] at h ⊢
   obtain⟨h0,jC,a,cap,vs,rfl,h1,h2,h3⟩:=h
   refine⟨by rw[cb];exact h0,by rw[jy jx];exact jC,a,cap,vs,by rw[dc],by rw[dc];exact h1,aj.erase hX hw hφ hO ho h2,h3.imp (fun h=>by rw[h];rfl) ?_⟩
   rintro⟨b,o,rfl,hb,hs,hr⟩
   exact⟨b,o,rfl,fun hh=>hb (ho b hh),by rw[hw];exact hs,by rw[hw];exact hr⟩
 | .litk sz xs,_,h=>by
   simp only[V.erase,ak] at h ⊢
   obtain⟨h0,jC,a,cap,vs,rfl,h1,h2,h3⟩:=h
   refine⟨by rw[cb];exact h0,by rw[jy jx];exact jC,a,cap,vs,by rw[dc],by rw[dc];exact h1,aj.erase hX hw hφ hO ho h2,h3.imp (fun h=>by rw[h];rfl) ?_⟩
   rintro⟨rfl,hb,hs,hr⟩
   exact⟨_,_,rfl,fun hh=>hb (ho _ hh),by rw[hw];exact hs,by rw[hw];exact hr⟩
 | .sl r g off len,_,h=>by
   simp only[V.erase,ak] at h ⊢
   rw[hφ,(hO r).1,(hO r).2];exact h
 | .ptr r g idx off,_,h=>by
   simp only[V.erase,ak] at h ⊢
   rw[hφ,(hO r).1,(hO r).2];exact h
 | .eptr e off,_,h=>by
   simp only[V.erase,ak] at h ⊢
   obtain⟨h0,jC,b,o,sz,x,rfl,hb,hs,h1,hr⟩:=h
   exact⟨by rw[ef];exact h0,by rw[jx];exact jC,b,o,sz,x,rfl,fun hh=>hb (ho b hh),by rw[hw];exact hs,ak.erase hX hw hφ hO ho h1,by rw[hw];exact hr⟩
 | .epk i sz e off,_,h=>by
   simp only[V.erase,ak] at h ⊢
   obtain⟨h0,jC,x,rfl,hb,hs,h1,hr⟩:=h
   exact⟨by rw[ef];exact h0,by rw[jx];exact jC,_,X.tok.2+i*sz,sz,x,rfl,fun hh=>hb (ho _ hh),by rw[hw];exact hs,ak.erase hX hw hφ hO ho h1,by rw[hw];exact hr⟩
 | .mp r g,_,h| .it r g,_,h=>by
   simp only[V.erase,ak] at h ⊢
   rw[hφ,(hO r).1,(hO r).2];exact h
 | .mlit es,_,h=>by
   simp only[V.erase,ak] at h ⊢
   obtain⟨h0,h⟩:=h
   refine⟨by rw[cb];exact h0,h.imp (fun h=> ⟨by rw[h.1];rfl,h.2⟩) ?_⟩
   rintro⟨a,ents,clock,rfl,hb,hs,h1,h2⟩
   exact⟨a,ents,clock,rfl,fun hh=>hb (ho a hh),by rw[hw];exact hs,by rw[hw];exact h1,aj.erase hX hw hφ hO ho h2⟩
theorem aj.erase (hX:X'.toTrEnv=X.toTrEnv) (hw:μ'.w=μ.w) (hφ:μ'.φ=μ.φ) (hO: ∀r,(μ'.O r).gen=(μ.O r).gen∧(μ'.O r).sz=(μ.O r).sz) (ho: ∀b,Own X' μ' b→Own X μ b): ∀ {xs:List V} {vs:List Value},aj X μ xs vs→aj X' μ' (V.erases xs) vs
 | [],[],_=>by simp[V.erases,aj]
 | [],_::_,h=>by simp[aj] at h
 | _::_,[],h=>by simp[aj] at h
 | x::xs,v::vs,h=>by
   simp only[V.erases,aj] at h ⊢
   exact⟨ak.erase hX hw hφ hO ho h.1,aj.erase hX hw hφ hO ho h.2⟩
end
end
def c8 (O:Nat→Obj):Nat→Obj:=fun r=> {O r with es:=(O r).es.map V.erases}
section
variable {X:TrEnv} {B:Nat→Prop} {K K':Nat×Nat} {w:World} {φ:Nat→Row} {O:Nat→Obj}
theorem lE {b:Nat}: (Mu.mk w φ (c8 O)).own b↔(Mu.mk w φ O).own b:=by
 simp only[Mu.own,c8,Option.isSome_map]
theorem w6 {x:V} {v:Value} (h:ak ⟨X,B,K⟩ ⟨w,φ,O⟩ x v):ak ⟨X,B,K'⟩ ⟨w,φ,c8 O⟩ x.erase v:=
 ak.erase (X:=⟨X,B,K⟩) (X':=⟨X,B,K'⟩) (μ:=⟨w,φ,O⟩) (μ':=⟨w,φ,c8 O⟩) rfl rfl rfl (fun _=> ⟨rfl,rfl⟩) (fun b hb=>hb.imp lE.1 id) h
theorem oZ {xs:List V} {vs:List Value} (h:aj ⟨X,B,K⟩ ⟨w,φ,O⟩ xs vs):aj ⟨X,B,K'⟩ ⟨w,φ,c8 O⟩ (V.erases xs) vs:=
 aj.erase (X:=⟨X,B,K⟩) (X':=⟨X,B,K'⟩) (μ:=⟨w,φ,O⟩) (μ':=⟨w,φ,c8 O⟩) rfl rfl rfl (fun _=> ⟨rfl,rfl⟩) (fun b hb=>hb.imp lE.1 id) h
theorem sA (h:bc ⟨X,B,K⟩ ⟨w,φ,O⟩):bc ⟨X,B,K'⟩ ⟨w,φ,c8 O⟩ where
 ok:=fun r es bl=>by
  simp only[c8,Option.map_eq_some_iff] at bl
  obtain⟨nA,aaI,rfl⟩:=bl
  rcases h.ok r nA aaI with⟨h1,h2,h3,h4⟩ | ⟨h1,h2,ob,h3,h4⟩
  · refine .inl ⟨h1,by rw[dc];exact h2,by rw[jy (fun v=>vZ v _)];exact h3,h4.imp id ?_⟩
    rintro⟨c,T,vs,k1,k2,k3,k4⟩
    exact⟨c,T,vs,k1,k2,oZ k3,k4⟩
  · refine .inr ⟨h1,h2,ob,h3,?_⟩
    rcases h4 with⟨ents,clock,k1,k2,k3⟩ | ⟨s,pos,k1,k2⟩ | ⟨mo,since,es1,k1,k2,k3⟩
    · exact .inl ⟨ents,clock,k1,oZ k2,k3⟩
    · exact .inr (.inl ⟨s,pos,k1,by rw[k2];rfl⟩)
    · refine .inr (.inr ⟨mo,since,V.erases es1,k1,by rw[k2];rfl,k3.imp (fun h=> ⟨h.1,by rw[h.2];rfl⟩) ?_⟩)
      rintro⟨m,ents,l1,l2,l3,l4,l5,l6⟩
      exact⟨m,ents,l1,fun hh=>l2 (hh.imp lE.1 id),l3,l4,l5,oZ l6⟩
 inj:=fun r r' cO h1 h2 h3 h4=>h.inj r r' cO (by simpa [c8] using h1) (by simpa [c8] using h2) h3 h4
 qJ:=fun r h1 h2=>h.qJ r (by simpa [c8] using h1) h2
 blt:=h.blt
theorem kG {n:Nat} {T T':Nat→V} {c c':V} {rs:List Nat} (h:bH n ⟨T,O⟩ c=some (c',rs)):bH n ⟨T',c8 O⟩ c.erase=some (c'.erase,rs):=by
 have other: (∀r g off len,c≠ .sl r g off len)→c.aB=true→c'=c∧rs=[]→bH n ⟨T',c8 O⟩ c.erase=some (c'.erase,rs):=by
   rintro X1 hp ⟨rfl,rfl⟩
   have AU:c'.erase.aB=true:=by rw[ef];exact hp
   cases c'<;>first| exact absurd rfl (X1 _ _ _ _) | (simp only[V.erase] at AU ⊢;simp only[bH,AU,if_true])
 unfold bH at h
 split at h
 · rename_i r g off len
   simp only[V.erase,bH]
   split at h
   · rename_i es bl
     have eS: (c8 O r).es=some (V.erases es):=by
       have: (O r).es=some es:=bl
       simp only[c8,this,Option.map_some]
     simp only[eS]
     split at h
     · rename_i hc
       have yK: (c8 O r).gen=g∧off+len≤(V.erases es).length∧(c8 O r).arr=true∧V.aq (aJ (V.erases es) off len)=true:=
         ⟨hc.1,by rw[dc];exact hc.2.1,hc.2.2.1,by rw[j8,cb];exact hc.2.2.2⟩
       rw[if_pos yK]
       split at h
       · rename_i hr
         rw[if_pos hr]
         simp only[Option.some.injEq,Prod.mk.injEq] at h
         obtain⟨rfl,rfl⟩:=h;rfl
       · rename_i hr
         rw[if_neg hr]
         split at h
         · rename_i hf
           rw[if_pos (show (c8 O r).fz=true from hf)]
           simp only[Option.some.injEq,Prod.mk.injEq] at h
           obtain⟨rfl,rfl⟩:=h
           simp only[V.erase,j8]
           rfl
         · rename_i hf
           rw[if_neg (show ¬ (c8 O r).fz=true from hf)]
           simp only[Option.some.injEq,Prod.mk.injEq] at h
           obtain⟨rfl,rfl⟩:=h
           simp only[V.erase,j8]
           rfl
     · simp at h
   · simp at h
 · rename_i X1
   split at h
   · rename_i hp
     simp only[Option.some.injEq,Prod.mk.injEq] at h
     obtain⟨rfl,rfl⟩:=h
     exact other (fun r g off len e=>X1 r g off len e) hp ⟨rfl,rfl⟩
   · simp at h
theorem gj {n:Nat} {T T':Nat→V}: ∀ {cs ct:List V} {rs:List Nat},br n ⟨T,O⟩ cs=some (ct,rs)→br n ⟨T',c8 O⟩ (V.erases cs)=some (V.erases ct,rs)
 | [],ct,rs,h=>by
   simp only[br,Option.some.injEq,Prod.mk.injEq] at h
   obtain⟨rfl,rfl⟩:=h;rfl
 | c::cs,ct,rs,h=>by
   simp only[br] at h
   split at h
   · rename_i c1 r1 NF MM h1 h2
     simp only[Option.some.injEq,Prod.mk.injEq] at h
     obtain⟨rfl,rfl⟩:=h
     simp only[V.erases,br,kG (T':=T') h1,gj h2]
   · simp at h
theorem oz {n:Nat} {T T':Nat→V} {v v':V} {rs:List Nat} (h:cu n ⟨T,O⟩ v=some (v',rs)):cu n ⟨T',c8 O⟩ v.erase=some (v'.erase,rs):=by
 unfold cu at h
 split at h
 · rename_i hp
   simp only[Option.some.injEq,Prod.mk.injEq] at h
   obtain⟨rfl,rfl⟩:=h
   simp only[cu,ef,hp,if_true]
 · rename_i hp
   have AU: ¬v.erase.aB=true:=by rw[ef];exact hp
   unfold cu
   rw[if_neg AU]
   split at h
   · rename_i cs
     split at h
     · rename_i NF MM h1
       simp only[Option.some.injEq,Prod.mk.injEq] at h
       obtain⟨rfl,rfl⟩:=h
       simp only[V.erase,gj (T':=T') h1]
     · simp at h
   · rename_i f cs
     split at h
     · rename_i NF MM h1
       split at h
       · rename_i hc
         simp only[Option.some.injEq,Prod.mk.injEq] at h
         obtain⟨rfl,rfl⟩:=h
         simp only[V.erase,gj (T':=T') h1,cb,hc,if_true]
       · simp at h
     · simp at h
   · rename_i h1 h2
     have:=kG (T':=T') h
     cases v<;>first| exact absurd rfl (h1 _) | exact absurd rfl (h2 _ _) | exact this
theorem mU {n:Nat} {T T':Nat→V}: ∀ {cs ct:List V} {rs:List Nat},b9 n ⟨T,O⟩ cs=some (ct,rs)→b9 n ⟨T',c8 O⟩ (V.erases cs)=some (V.erases ct,rs)
 | [],ct,rs,h=>by
   simp only[b9,Option.some.injEq,Prod.mk.injEq] at h
   obtain⟨rfl,rfl⟩:=h;rfl
 | c::cs,ct,rs,h=>by
   simp only[b9] at h
   split at h
   · rename_i c1 r1 NF MM h1 h2
     simp only[Option.some.injEq,Prod.mk.injEq] at h
     obtain⟨rfl,rfl⟩:=h
     simp only[V.erases,b9,oz (T':=T') h1,mU h2]
   · simp at h
theorem cR.erase {n:Nat} {T T':Nat→V} {v0 v:V} {rs:List Nat} (h:cR n ⟨T,O⟩ v0 v rs):cR n ⟨T',c8 O⟩ v0.erase v.erase rs:=by
 cases h with
 | one h=>exact .one (oz h)
 | many h=>simp only[V.erase];exact .many (mU h)
end
theorem B0 {v:V} (h:v.aB=true): (uo v).aB=true:=by
 unfold uo;split
 · rfl
 · exact h
theorem qE (v:V): (uo v).aK=v.aK:=by
 unfold uo;split<;>rfl
section
variable {X:TrEnv} {B:Nat→Prop} {K:Nat×Nat} {μ:Mu}
theorem En (c:Nat) {x:V} {v:Value} (hx: ∀K,ak ⟨X,B,K⟩ μ x v): ∃K,ak ⟨X,B,K⟩ μ (zk c x) v:=by
 unfold zk
 split
 · rename_i cs
   by_cases hc: ∃sz xs,cs[c]? =some (.lit sz xs)∧xs≠[]
   · obtain⟨sz,xs,kI,cO⟩:=hc
     obtain⟨h1,vs,rfl,h2⟩:cs.all V.aK=true∧ ∃vs,v= .agg vs∧aj ⟨X,B,(0,0)⟩ μ cs vs.toList:=by have:=hx (0,0);simpa only[ak] using this
     obtain⟨u,hu,bQ⟩:=h2.get kI
     simp only[ak] at bQ
     obtain⟨k0,NG,a,cap,us,rfl,k1,k2,k3⟩:=bQ
     obtain⟨b,o,rfl,k4,k5,k6⟩:=k3.resolve_left cO
     refine⟨(b,o),?_⟩
     have GD:aj ⟨X,B,(b,o)⟩ μ cs vs.toList:=by
       have:=hx (b,o)
       simp only[ak] at this
       obtain⟨_,vs',e,h⟩:=this
       injection e with e;subst e;exact h
     simp only[ak]
     refine⟨?_,vs,rfl,?_⟩
     · rw[List.all_eq_true] at h1 ⊢
       intro y hy
       obtain⟨i,hi⟩:=List.mem_iff_getElem?.1 hy
       rw[List.getElem?_modify,Option.map_eq_map,Option.map_eq_some_iff] at hi
       obtain⟨z,hz,rfl⟩:=hi
       have Il:=h1 z (List.mem_of_getElem? hz)
       split
       · rw[qE];exact Il
       · exact Il
     · refine aj.uB (by rw[List.length_modify];exact GD.length) fun i y u' hy Bw=> ?_
       rw[List.getElem?_modify,Option.map_eq_map,Option.map_eq_some_iff] at hy
       obtain⟨z,hz,rfl⟩:=hy
       obtain⟨u2,JA,ph⟩:=GD.get hz
       rw[Bw] at JA;injection JA with JA;subst JA
       by_cases KU:c=i
       · subst KU
         rw[if_pos rfl]
         rw[kI] at hz;injection hz with hz;subst hz
         rw[hu] at Bw;injection Bw with Bw;subst Bw
         simp only[uo,ak]
         simp only[ak] at ph
         obtain⟨_,_,a',DT,Ih,e,_,m2,m3⟩:=ph
         injection e with e1 e2 e3
         subst e1;subst e3
         refine⟨k0,NG,_,cap,Ih,rfl,k1,m2,.inr ⟨rfl,k4,k5,?_⟩⟩
         rcases m3 with m3| ⟨b',o',e,_,_,m⟩
         · exact absurd m3 cO
         · simp only[Option.some.injEq,Addr.mk.injEq,and_true] at e
           obtain⟨rfl,rfl⟩:=e
           exact m
       · rw[if_neg KU];exact ph
   · refine⟨(0,0),?_⟩
     have h0:=hx (0,0)
     simp only[ak] at h0 ⊢
     obtain⟨h1,vs,rfl,h2⟩:=h0
     refine⟨?_,vs,rfl,?_⟩
     · rw[List.all_eq_true] at h1 ⊢
       intro y hy
       obtain⟨i,hi⟩:=List.mem_iff_getElem?.1 hy
       rw[List.getElem?_modify,Option.map_eq_map,Option.map_eq_some_iff] at hi
       obtain⟨z,hz,rfl⟩:=hi
       have Il:=h1 z (List.mem_of_getElem? hz)
       split
       · rw[qE];exact Il
       · exact Il
     · refine aj.uB (by rw[List.length_modify];exact h2.length) fun i y u' hy Bw=> ?_
       rw[List.getElem?_modify,Option.map_eq_map,Option.map_eq_some_iff] at hy
       obtain⟨z,hz,rfl⟩:=hy
       obtain⟨u2,JA,ph⟩:=h2.get hz
       rw[Bw] at JA;injection JA with JA;subst JA
       by_cases KU:c=i
       · subst KU
         rw[if_pos rfl]
         unfold uo
         split
         · rename_i sz xs
           have Cm:xs=[]:=Classical.byContradiction fun cO=>hc ⟨sz,xs,hz,cO⟩
           subst Cm
           simp only[ak] at ph ⊢
           obtain⟨k0,NG,a,cap,us,rfl,k1,k2,_⟩:=ph
           exact⟨k0,NG,a,cap,us,rfl,k1,k2,.inl trivial⟩
         · exact ph
       · rw[if_neg KU];exact ph
 · exact⟨(0,0),hx (0,0)⟩
theorem fC (p:Nat×Nat) (args:List V): (cX p args).length=args.length:=by simp[cX,dc]
theorem v3 {p:Nat×Nat} {args:List V} (h:V.aq args=true):V.aq (cX p args)=true:=by
 refine oD fun x hx=> ?_
 obtain⟨i,hi⟩:=List.mem_iff_getElem?.1 hx
 have he:V.aq (V.erases args)=true:=by rw[cb];exact h
 rw[cX,List.getElem?_modify,Option.map_eq_map,Option.map_eq_some_iff] at hi
 obtain⟨z,hz,rfl⟩:=hi
 have Il:=gT he (List.mem_of_getElem? hz)
 split
 · unfold zk
   split
   · rename_i cs
     simp only[V.aB] at Il ⊢
     refine oD fun y hy=> ?_
     obtain⟨j,hj⟩:=List.mem_iff_getElem?.1 hy
     rw[List.getElem?_modify,Option.map_eq_map,Option.map_eq_some_iff] at hj
     obtain⟨u,hu,rfl⟩:=hj
     have Bw:=gT Il (List.mem_of_getElem? hu)
     split
     · exact B0 Bw
     · exact Bw
   · exact Il
 · exact Il
theorem w7 {F:FuncId} {p:Nat×Nat} {args:List V} {res:dk} (hp:V.aq args=true) (h:cH X F (cX p args) res):cH X F args ⟨res.val.erase,[]⟩:=by
 intro B K w φ0 vals CW hv ho
 have hpm:=v3 (p:=p) hp
 have hO: (enter args).O=fun _=>bB:=by rw[fD hp]
 have hOm: (enter (cX p args)).O=fun _=>bB:=by rw[fD hpm]
 have hT: ∀t a,args[t]? =some a→(enter args).T t=a:=fun t a ha=>by rw[fD hp];simp[List.getD,ha]
 have hTm: ∀t a,(cX p args)[t]? =some a→(enter (cX p args)).T t=a:=fun t a ha=>by rw[fD hpm];simp[List.getD,ha]
 have each: ∀K' t (x:V) v,(V.erases args)[t]? =some x→vals[t]? =some v→ak ⟨X,B,K'⟩ ⟨w,φ0,fun _=>bB⟩ x v:=fun K' t x v hx yc=>by
   rw[lD,List.getElem?_map,Option.map_eq_some_iff] at hx
   obtain⟨y,hy,rfl⟩:=hx
   have:=hv t v yc
   rw[hT t y hy,hO] at this
   have:=w6 (K':=K') this
   exact this
 obtain⟨K',hK⟩: ∃K',∀x v,(V.erases args)[p.1]? =some x→vals[p.1]? =some v→ak ⟨X,B,K'⟩ ⟨w,φ0,fun _=>bB⟩ (zk p.2 x) v:=by
   cases hx: (V.erases args)[p.1]? with
   | none=>exact⟨(0,0),fun x v h1=>by simp at h1⟩
   | some x=>
     cases hu:vals[p.1]? with
     | none=>exact⟨(0,0),fun x v _ h1=>by simp at h1⟩
     | some u=>
       obtain⟨K',hK⟩:=En (X:=X) (B:=B) (μ:=⟨w,φ0,fun _=>bB⟩) p.2 (fun K'=>each K' p.1 x u hx hu)
       exact⟨K',fun y v h1 h2=>by injection h1 with h1;injection h2 with h2;subst h1;subst h2;exact hK⟩
 have hU:=h B K' w φ0 vals (by rw[fC];exact CW) (fun t v yc=>by
   rw[hOm]
   have bp:t< (cX p args).length:=by rw[fC,←CW];exact(List.getElem?_eq_some_iff.1 yc).1
   obtain⟨y,rD⟩: ∃y,(cX p args)[t]? =some y:=⟨_,List.getElem?_eq_getElem bp⟩
   rw[hTm t _ rD]
   have MO:=rD
   simp only[cX] at MO
   rw[List.getElem?_modify,Option.map_eq_map,Option.map_eq_some_iff] at MO
   obtain⟨z,hz,vI⟩:=MO
   rw[←vI]
   split
   · rename_i e
     subst e
     exact hK z v hz yc
   · exact each K' t z v hz yc) (by
   rw[hOm]
   rw[hO] at ho
   have:=sA (K':=K') ho
   exact this)
 rw[hOm] at hU
 rw[hO]
 have post: ∀val w',(∃φ' T' O' v0 refs,Le ⟨w,φ0,fun _=>bB⟩ ⟨w',φ',O'⟩∧bc ⟨X,B,K'⟩ ⟨w',φ',O'⟩∧
     ak ⟨X,B,K'⟩ ⟨w',φ',O'⟩ v0 val∧cR (cX p args).length ⟨T',O'⟩ v0 res.val refs∧distinct refs=true∧bO O' 0 (cX p args)=some res.outs)→
     ∃φ' T' O' v0 refs,Le ⟨w,φ0,fun _=>bB⟩ ⟨w',φ',O'⟩∧bc ⟨X,B,K⟩ ⟨w',φ',O'⟩∧
     ak ⟨X,B,K⟩ ⟨w',φ',O'⟩ v0 val∧cR args.length ⟨T',O'⟩ v0 (dk.mk res.val.erase []).val refs∧distinct refs=true∧bO O' 0 args=some (dk.mk res.val.erase []).outs:=by
   rintro val w' ⟨φ',T',O',v0,refs,k1,k2,k3,k4,k5,k6⟩
   rw[fC] at k4
   refine⟨φ',T',c8 O',v0.erase,refs,?_,sA k2,w6 k3,k4.erase,k5,fH hp⟩
   exact⟨k1.size,fun b hb hn=> ⟨(k1.bZ b hb hn).1,fun h'=> (k1.bZ b hb hn).2 (lE.1 h')⟩,k1.gen,k1.row,k1.os,k1.output,k1.tape,k1.frozen⟩
 unfold yp at hU ⊢
 split at hU
 · exact post _ _ hU
 · refine Calls.mono hU fun e w' he=> ?_
   cases e with
   | returned v=>exact post _ _ he
   | panicked c=>exact he.elim
   | outgrown=>exact he.elim
 · exact hU.elim
end
end Go.AM
namespace Go.AM
open Go Go.RowKit
structure ve (X:TrEnv) (E:Env):Prop where
 inj: ∀t1 t2 k,X.iu t1=some k→X.iu t2=some k→t1=t2
 mixed:X.P.follows .mixedOrders=true
 fn: ∀f af F,E.fn f=some af→X.gq F=some f→ ∃fn h c,X.P.funcs[F]? =some fn∧(fn.name== "runtime.NumGoroutine")=false∧fn.body=some c∧uu X h fn=some af∧af.nparams≤fn.ntmps
 ext: ∀f as res F,E.ext f as=some res→X.gq F=some f→cH X F as res
 iter: ∀g F caps xs,E.iter g caps=some xs→X.gq F=some g→ ∀ (B:Nat→Prop) (K:Nat×Nat) (μ:Mu) (lb:Array Value),aj ⟨X,B,K⟩ μ caps lb.toList→bc ⟨X,B,K⟩ μ→tA ⟨X,B,K⟩ μ F lb xs
 hyb: ∀f h F,E.hyb f=some h→X.gq F=some f→ ∀C:a9,(∀f F as res,X.gq F=some f→C f as=some res→cH X F as res)→ ∀as res,h C as=some res→cH X F as res
section
variable {X:Ctx} {T:Nat→V} {a:Go.Act} {μ:Mu}
theorem yt (  hr:Rel X T a μ) {r:ResultVar} {r':pB} (aM:qi X r=some r') {v:V} (h:ek ⟨T,μ.O⟩ r'=some v):
   ∃val,((match r with| .tmp t=>pure (a.tmps.getD t undef) | .cell c t=>do loadVar t (←asAddr (a.tmps.getD c undef)):Sem Value)).run X.P μ.w= .ok val μ.w∧ak X μ v val:=by
 cases r with
 | tmp t=>
   simp[qi] at aM;subst aM
   simp only[ek,Option.some.injEq] at h;subst h
   exact⟨_,rfl,hr.tmps t⟩
 | cell c t=>
   simp only[qi] at aM
   split at aM
   · rename_i g sz hg hn
     injection aM with aM;subst aM
     simp only[ek] at h
     split at h
     · rename_i r gn idx off e
       split at h
       · rename_i es bl
         split at h
         · rename_i b5
           split at h
           · rename_i el te
             have hx:=hr.tmps c
             rw[e] at hx
             simp only[ak] at hx
             obtain⟨p,KR,_,bY⟩:=hx
             obtain⟨xz,bY⟩:=bY b5
             obtain⟨xv,qL,_,jm⟩:=zI hr.aY bl te xz
             obtain⟨val,hl,bQ⟩:=nE qL h hg hn jm
             refine⟨val,?_,bQ⟩
             rw[bY] at KR
             show (do loadVar t (←asAddr (a.tmps.getD c undef)):Sem Value).run X.P μ.w=_
             rw[KR]
             simpa [Sem.run_bind,asAddr,Sem.run] using hl
           · simp at h
         · simp at h
       · simp at h
     · simp at h
   · simp at aM
theorem qF (hr:Rel X T a μ): ∀ {rs:List ResultVar} {rs':List pB} {vs:List V},iT X rs=some rs'→cG ⟨T,μ.O⟩ rs'=some vs→
   ∃vals,(rs.mapM (fun r=> (match r with| .tmp t=>pure (a.tmps.getD t undef) | .cell c t=>do loadVar t (←asAddr (a.tmps.getD c undef)):Sem Value))).run X.P μ.w= .ok vals μ.w∧aj X μ vs vals
 | [],rs',vs,h1,h2=>by
   simp[iT] at h1;subst h1
   simp[cG] at h2;subst h2
   exact⟨[],by simp[Sem.run],by simp[aj]⟩
 | r::rs,rs',vs,h1,h2=>by
   simp only[iT] at h1
   split at h1
   · rename_i r1 MM k1 k2
     injection h1 with h1;subst h1
     simp only[cG] at h2
     split at h2
     · rename_i v vs1 m1 m2
       injection h2 with h2;subst h2
       obtain⟨val,n1,n2⟩:=yt hr k1 m1
       obtain⟨vals,p1,p2⟩:=qF hr k2 m2
       refine⟨val::vals,?_,by simp only[aj];exact⟨n2,p2⟩⟩
       simp only[List.mapM_cons,Sem.run_bind,n1,Result.andThen,p1]
       rfl
     · simp at h2
   · simp at h1
theorem v5 (hr:Rel X T a μ) {fn:Func} {rs':List pB} {vs:List V} (h1:iT X fn.results.toList=some rs') (h2:cG ⟨T,μ.O⟩ rs'=some vs):
  ∃vals,(results fn a.tmps).run X.P μ.w= .ok (match vals with| [v]=>v| vs=> .tuple vs.toArray) μ.w∧aj X μ vs vals:=by
 obtain⟨vals,k1,k2⟩:=qF hr h1 h2
 refine⟨vals,?_,k2⟩
 have hm: (fn.results.mapM (fun r=> (match r with| .tmp t=>pure (a.tmps.getD t undef) | .cell c t=>do loadVar t (←asAddr (a.tmps.getD c undef)):Sem Value))).run X.P μ.w= .ok vals.toArray μ.w:=by
  rw[Array.mapM_eq_mapM_toList]
  show Sem.run X.P (_ >>=fun l=>pure (List.toArray l)) _=_
  rw[Sem.run_bind,k1]
  rfl
 unfold results
 rw[Sem.run_bind]
 refine(congrArg (fun r=>Result.andThen r (fun vs w'=>Sem.run X.P (pure (if h:vs.size=1 then vs[0] else Value.tuple vs)) w')) hm).trans ?_
 match vals with
 | []=>rfl
 | [v]=>rfl
 | _::_::_=>rfl
end
section
variable {X:TrEnv} {E:Env}
theorem Eo {  af:aA} {args:List V} {σ:St} {res:dk} (h:leave af args σ=some res):
   ∃vs,cG σ af.results=some vs∧bO σ.O 0 args=some res.outs∧ ∃refs,distinct refs=true∧
     ∀v0,v0=(match vs with| [v]=>v| vs=> .tuple vs)→cR args.length σ v0 res.val refs:=by
 unfold leave at h
 split at h
 · rename_i vs outs h1 h2
   refine⟨vs,h1,?_⟩
   split at h
   · rename_i v rs hx
     split at h
     · rename_i hd
       injection h with h;subst h
       refine⟨h2,rs,hd,?_⟩
       rintro v0 rfl
       match vs,hx with
       | [u],hx=>
         simp only[b9] at hx
         split at hx
         · rename_i c' r ct rs' k1 k2
           simp only[Option.some.injEq,Prod.mk.injEq,List.cons.injEq] at hx k2
           obtain⟨⟨rfl,rfl⟩,rfl⟩:=hx
           obtain⟨_,rfl⟩:=k2
           simpa using cR.one k1
         · simp at hx
       | [],hx=>simp[b9] at hx
       | _::_::_,hx=>
         simp only[b9] at hx
         split at hx
         · rename_i k1 k2
           split at k2
           · simp only[Option.some.injEq,Prod.mk.injEq] at hx k2
             obtain⟨e1,_⟩:=k2
             subst e1
             simp at hx
           · simp at k2
         · simp at hx
     · simp at h
   · rename_i vs' rs X1 hx
     split at h
     · rename_i hd
       injection h with h;subst h
       refine⟨h2,rs,hd,?_⟩
       rintro v0 rfl
       match vs,hx with
       | [u],hx=>
         exfalso
         simp only[b9] at hx
         split at hx
         · rename_i c' r ct rs' k1 k2
           simp only[Option.some.injEq,Prod.mk.injEq] at hx k2
           obtain⟨rfl,rfl⟩:=hx
           obtain⟨rfl,_⟩:=k2
           exact X1 _ rfl
         · simp at hx
       | [],hx=>exact .many hx
       | _::_::_,hx=>exact .many hx
     · simp at h
   · simp at h
 · simp at h
theorem sB {P:Program} {fn:Func} {tmps:Array Value} {R:Ending→World→Prop} {n:Fp} (Pw:World→Prop) (wN: ∀w D,n.fl≤D→w.heap[D]? =some (.deferred (some []))→Pw w→Pw (w.putObj D (.deferred none)))
   (hR: ∀w,Pw w→ ∃v,(results fn tmps).run P w= .ok v w∧R (.returned v) w) {ds:List Deferred} {w:World} (hm:Marks n w ds) (hw:Pw w):LeavesInM (Fr none) 0 P fn tmps R ds .returning w:=by
 obtain⟨_,Ds,rfl,Ik,hDs⟩:=hm
 revert w
 induction Ds with
 | nil=>intro w hw _ _;exact hR w hw
 | cons D Ds ih=>
   intro w hw hf hm
   obtain⟨h1,h2⟩:=hm D (by simp)
   rw[List.nodup_cons] at Ik
   refine⟨by simp,.inl ⟨D,w.putObj D (.deferred none),rfl,run_takeDeferred h2,?_⟩⟩
   refine ih Ik.2 (wN w D h1 h2 hw) ⟨by simpa [World.putObj] using hf.1,fun l hl=> ?_⟩ fun D' hD'=> ⟨(hm D' (by simp[hD'])).1,?_⟩
   · obtain⟨L,k⟩:=hf.2 l hl
     exact⟨L,(World.putObj_heap_other (fun e=>by rw[e,h2] at k;simp at k)).trans k⟩
   · rw[World.putObj_heap_other (fun e=>Ik.1 (by rw[←e];exact hD'))]
     exact(hm D' (by simp[hD'])).2
theorem lF (hE:ve X E) {n:Nat} (hH: ∀m,m<n→ ∀ (B:Nat→Prop) (K:Nat×Nat),mM ⟨X,B,K⟩ E (dw E (exec E m))) {f:Nat} {af:aA} {F:FuncId} (hf:E.fn f=some af) (hF:X.gq F=some f)
   {args:List V} {res:dk} {e:aX} {σ:St} (hlen:args.length=af.nparams) (hx:exec E n af.body (enter args)=some (e,σ)) (he:e= .normal∨e= .ret) (hl:leave af args σ=some res):cH X F args res:=by
 obtain⟨fn,h,c,tk,sC,kC,aM,hle⟩:=hE.fn f af F hf hF
 intro B K w φ0 vals CW hv ho
 have X2: (callFunc F vals.toArray).run X.P w= .ok (.enter F vals.toArray) w:=by
   have MP: (fn.name== "runtime.NumGoroutine")=false:=sC
   simp[callFunc,Sem.run_bind,program,Sem.run,tk,MP,kC]
   simpa using sC
 rw[X2]
 unfold uu at aM
 rw[kC] at aM
 simp only at aM
 split at aM
 · rename_i ac rs hc XG
   injection aM with aM
   subst aM
   simp only[yp]
   refine(callsIn_wide (n:=0)).1 (callsIn_of_wp_marks (F:=Fr none) tk kC trivial ?_ rfl)
   have ck:vals.toArray.size≤fn.ntmps:=by simp[CW,hlen];exact hle
   have kD:iG ⟨X,B,K⟩ ⟨w,φ0,(enter args).O⟩ ⟨fn.ntmps,w.heap.size,none⟩ (enter args) {tmps:=vals.toArray++Array.replicate (fn.ntmps - vals.toArray.size) undef,defers:=[]} w:=by
    refine⟨Marks.nil (Nat.le_refl _) (by simp),by simp at ck ⊢;omega,φ0,⟨fun t=> ?_,ho⟩,Le.refl _⟩
    by_cases ht:t<vals.length
    · have e1: (vals.toArray++Array.replicate (fn.ntmps - vals.toArray.size) undef).getD t undef=vals[t]:=by
       simp[Array.getElem?_append,ht]
      rw[e1]
      exact hv t _ (List.getElem?_eq_getElem ht)
    · have e1: (vals.toArray++Array.replicate (fn.ntmps - vals.toArray.size) undef).getD t undef=undef:=by
       simp[Array.getElem?_append,ht,Array.getElem?_replicate]
       split<;>rfl
      have e2: (enter args).T t=dC:=by
       have:args[t]? =none:=List.getElem?_eq_none (by omega)
       simp[enter,this]
      rw[e1,e2]
      exact rE
   refine wpIn_mono (BU (X:=⟨X,B,K⟩) hE.mixed (fun g F caps xs h1 h2 μ lb h3 h4=>hE.iter g F caps xs h1 h2 B K μ lb h3 h4) (h:={h with n:=fn.ntmps,KN:=[],full:=[]}) n (fun m hm=>hH m hm B K) rfl c (.inl ⟨rfl,rfl⟩) ac _ _ e _ w hc hx kD) fun ex a' w' hq=> ?_
   obtain⟨rfl,iO,_,φ',hr,qx⟩:=hq
   obtain⟨vs,l1,l2,refs,l3,l4⟩:=Eo hl
   have fin:LeavesInM (Fr none) 0 X.P fn a'.tmps (fun
      | .returned val,w'=> ∃φ' T' O' v0 refs,Le ⟨w,φ0,(enter args).O⟩ ⟨w',φ',O'⟩∧bc ⟨X,B,K⟩ ⟨w',φ',O'⟩∧ak ⟨X,B,K⟩ ⟨w',φ',O'⟩ v0 val∧cR args.length ⟨T',O'⟩ v0 res.val refs∧distinct refs=true∧bO O' 0 args=some res.outs
      | _,_=>False) a'.defers .returning w':=by
    refine sB (fun w'=>Rel ⟨X,B,K⟩ σ.T a' ⟨w',φ',σ.O⟩∧Le ⟨w,φ0,(enter args).O⟩ ⟨w',φ',σ.O⟩) (fun w1 D h1 h2 ⟨hr,hle⟩=> ⟨⟨fun t=>ak.cg (js (μ:=⟨w1,φ',σ.O⟩) h2 rfl rfl) (hr.tmps t),wX hr.aY h2⟩,BR hle h1⟩) (fun w' ⟨hr,qx⟩=> ?_) iO ⟨hr,qx⟩
    obtain⟨X3,r1,r2⟩:=v5 hr XG l1
    refine⟨_,r1,φ',σ.T,σ.O,_,refs,qx,hr.aY,?_,l4 _ rfl,l3,l2⟩
    match vs,X3,r2 with
    | [],[],r2=>simp only[ak];exact⟨_,rfl,by simpa using r2⟩
    | [v],[u],r2=>simp only[aj] at r2;exact r2.1
    | _::_::_,_::_::_,r2=>simp only[ak];exact⟨_,rfl,by simpa using r2⟩
    | [],_::_,r2=>simp[aj] at r2
    | _::_,[],r2=>simp[aj] at r2
    | [_],_::_::_,r2=>simp[aj] at r2
    | _::_::_,[_],r2=>simp[aj] at r2
   rcases he with rfl| rfl
   · exact fin
   · exact fin
 · simp at aM
theorem vf (    hE:ve X E): ∀ (n:Nat) (f:Nat) (F:FuncId) (args:List V) (res:dk),X.gq F=some f→call E n f args=some res→cH X F args res:=by
 intro n
 induction n using Nat.strongRecOn with
 | _ n ih=>
   have low: ∀ (f:Nat) (F:FuncId) (args:List V) (res:dk),X.gq F=some f→iY E (exec E n) f args=some res→cH X F args res:= ?low
   · intro f F args res hF h
     unfold call dw at h
     split at h
     · rename_i g hg
       exact hE.hyb f g F hg hF _ low args res h
     · exact low f F args res hF h
   intro f F args res hF h
   unfold iY at h
   split at h
   · rename_i r he
     injection h with h;subst h
     exact hE.ext f args r F he hF
   · split at h
     · rename_i af hf
       split at h
       · rename_i hlen
         have hH: ∀m,m<n→ ∀ (B:Nat→Prop) (K:Nat×Nat),mM ⟨X,B,K⟩ E (dw E (exec E m)):=fun m hm B K=>BZ hE.inj fun f F as res h1 h2=>ih m hm f F as res h1 h2
         split at h
         · split at h
           · rename_i σ hx;exact lF hE hH hf hF hlen hx (.inl rfl) h
           · rename_i σ hx;exact lF hE hH hf hF hlen hx (.inr rfl) h
           · simp at h
         · rename_i p hp
           split at h
           · rename_i w9
             have wO: (cX p args).length=af.nparams:=by rw[fC];exact hlen
             split at h
             · rename_i σ hx
               rw[Option.map_eq_some_iff] at h
               obtain⟨r0,h,rfl⟩:=h
               exact w7 w9 (lF hE hH hf hF wO hx (.inl rfl) h)
             · rename_i σ hx
               rw[Option.map_eq_some_iff] at h
               obtain⟨r0,h,rfl⟩:=h
               exact w7 w9 (lF hE hH hf hF wO hx (.inr rfl) h)
             · simp at h
           · simp at h
       · simp at h
     · simp at h
end
end Go.AM
namespace Go.AM
open Go Go.RowKit
section
variable {X:TrEnv} {F:FuncId} {fn:Func}
theorem qG {args:List V} (h:V.aq args=true): (enter args).O=fun _=>bB:=by rw[fD h]
theorem B1 (tk:X.P.funcs[F]? =some fn) (sC: (fn.name== "runtime.NumGoroutine")=false) (hb:fn.body.isNone=true) (hn:Extern.findNext fn=none) (he:Extern.find fn=some Extern.MathSqrt.sqrt)
   {as:List V} {res:dk} (h:yP as=some res):cH X F as res:=by
 unfold yP at h
 split at h
 · rename_i b
   split at h
   · rename_i r hr
     injection h with h;subst h
     intro B K w φ0 vals hl hv ho
     match vals,hl with
     | [v],_=>
       have h0:=hv 0 v rfl
       have e0: (enter [V.float b]).T 0= .float b:=rfl
       rw[e0] at h0
       simp only[ak] at h0
       subst h0
       rw[run_callFunc_extern tk sC hb hn he]
       have ag: (Extern.MathSqrt.sqrt #[.float .f64 b]).run X.P w= .ok (.float .f64 r) w:=by
         have e:Extern.MathSqrt.sqrt #[.float .f64 b]=(match FloatKind.f64.format.sqrt b with
          | some r=>pure (.float .f64 r)
          | none=>do pure (.float .f64 (←choose (.nanBits .f64 b b)))):=rfl
         rw[e,hr];rfl
       have e1: ([Value.float .f64 b]:List Value).toArray= #[.float .f64 b]:=rfl
       rw[e1,ag]
       simp only[Result.andThen,yp]
       refine⟨φ0,fun _=>dC,_,.float r,[],Le.refl _,ho,by simp[ak],.one (by simp[cu,V.aB]),rfl,rfl⟩
   · simp at h
 · simp at h
def MQ:Env:={fn:=fun _=>none,ext:=fun _ _=>none}
def Y8:a9:=fun _ _=>none
def strip (o:bJ):bJ:={o with pre:=[]}
structure vg (X:TrEnv) (fn:Func) (sz gr:Nat):Prop where
 body: ∃i0 i1 i2 i3 Hm MR Hn Ho,fn.body=some (.seq (.region i0 Hm false) (.seq (.seq (.region i1 MR false) (.cond (.tmp 4) (.seq (.region i2 Hn false) .ret) .skip)) (.seq (.region i3 Ho false) .ret)))∧
  (fy X ({n:=fn.ntmps}:Hints) Hm Hm.toList).map (List.map strip)=some [⟨some 2,.move (.const .nils),none,[]⟩]∧
  (fy X ({n:=fn.ntmps}:Hints) Hn Hn.toList).map (List.map strip)=some [⟨some 2,.move (.const .nils),none,[]⟩]∧
  (∃zero,aO zero sz=true∧0 <sz∧(fy X ({n:=fn.ntmps}:Hints) Ho Ho.toList).map (List.map strip)=some [⟨some 5,.buildSlice 96 sz zero 0 [],none,[]⟩,⟨some 6,.move (.tmp 0),none,[]⟩,⟨some 7,.append 128 sz gr (.tmp 5) (.tmp 6),none,[]⟩,⟨some 2,.move (.tmp 7),none,[]⟩])∧
  (∃o1 o2 t e,MR= #[o1,o2]∧(mC X ({n:=fn.ntmps}:Hints) #[o1,o2] o1).map strip=some ⟨some 3,.move (.tmp 0),none,[]⟩∧o2.dst=some 4∧o2.guard=none∧o2.op= .binOp .eql t (.tmp 3) (.const (.slice none 0 0)) t∧X.P.underlying t=some (.slice e))
 res:fn.results= #[.tmp 2]
 tmps:8≤fn.ntmps
theorem JB {Y:Ctx} (lW: ∀t1 t2 k,Y.iu t1=some k→Y.iu t2=some k→t1=t2):mM Y MQ Y8:=
 BZ lW fun _ _ _ _ _ h=>by simp[Y8] at h
theorem MS {Y:Ctx} (lW: ∀t1 t2 k,Y.iu t1=some k→Y.iu t2=some k→t1=t2) (n:Nat):mM Y MQ (call MQ n):=
 BZ lW fun _ _ _ _ _ h=>by simp[call,dw,iY,MQ] at h
theorem Ak (lW: ∀t1 t2 k,X.iu t1=some k→X.iu t2=some k→t1=t2) (tk:X.P.funcs[F]? =some fn) (sC: (fn.name== "runtime.NumGoroutine")=false) {sz gr:Nat} (hsh:vg X fn sz gr)
   {as:List V} {res:dk} (h:tK sz gr as=some res):cH X F as res:=by
 obtain⟨⟨i0,i1,i2,i3,Hm,MR,Hn,Ho,kC,h0,h2,⟨zero,rz,vI,h3⟩,o1,o2,t,e,rfl,KX,AR,MO,X4,hty⟩,kL,htm⟩:=hsh
 rw[Option.map_eq_some_iff] at h0 h2 h3 KX
 obtain⟨aS,h0,k0⟩:=h0
 obtain⟨as2,h2,k2⟩:=h2
 obtain⟨as3,h3,k3⟩:=h3
 obtain⟨ao1,KX,k1⟩:=KX
 have NG:aS.map (fun o=> {o with pre:=[]})=_:=k0
 have k2':as2.map (fun o=> {o with pre:=[]})=_:=k2
 have k3':as3.map (fun o=> {o with pre:=[]})=_:=k3
 obtain⟨a0,xs,rfl,eU,sS,rfl⟩: ∃a0 xs,as=[a0]∧(a0= .lit sz xs∨a0= .nils∧xs=[])∧xs.length≤gr∧res=⟨.own sz xs,[]⟩:=by
   unfold tK at h
   split at h
   · injection h with h;exact⟨_,[],rfl,.inr ⟨rfl,rfl⟩,by simp,h.symm⟩
   · rename_i sz' xs
     split at h
     · rename_i he;injection h with h;obtain⟨rfl,he⟩:=he;exact⟨_,xs,rfl,.inl rfl,he,h.symm⟩
     · simp at h
   · simp at h
 have w9:V.aq [a0]=true:=by rcases eU with rfl| ⟨rfl,rfl⟩ <;>rfl
 intro B K w φ0 vals CW hv ho
 have hO: (enter [a0]).O=fun _=>bB:=qG w9
 have hT0: (enter [a0]).T 0=a0:=by rw[fD w9];rfl
 have X2: (callFunc F vals.toArray).run X.P w= .ok (.enter F vals.toArray) w:=by
   simp[callFunc,Sem.run_bind,program,Sem.run,tk,kC]
   simpa using sC
 rw[X2]
 simp only[yp]
 refine(callsIn_wide (n:=0)).1 (callsIn_of_wp_marks (F:=Fr none) tk kC trivial ?_ rfl)
 have ck:vals.toArray.size≤fn.ntmps:=by simp[CW];omega
 have kD:iG ⟨X,B,K⟩ ⟨w,φ0,(enter [a0]).O⟩ ⟨fn.ntmps,w.heap.size,none⟩ (enter [a0]) {tmps:=vals.toArray++Array.replicate (fn.ntmps - vals.toArray.size) undef,defers:=[]} w:=by
   refine⟨Marks.nil (Nat.le_refl _) (by simp),by simp at ck ⊢;omega,φ0,⟨fun t=> ?_,ho⟩,Le.refl _⟩
   by_cases ht:t<vals.length
   · have e1: (vals.toArray++Array.replicate (fn.ntmps - vals.toArray.size) undef).getD t undef=vals[t]:=by
       simp[Array.getElem?_append,ht]
     rw[e1]
     exact hv t _ (List.getElem?_eq_getElem ht)
   · have e1: (vals.toArray++Array.replicate (fn.ntmps - vals.toArray.size) undef).getD t undef=undef:=by
       simp[Array.getElem?_append,ht,Array.getElem?_replicate]
       split<;>rfl
     have e2: (enter [a0]).T t=dC:=by
       have: [a0][t]? =none:=List.getElem?_eq_none (by omega)
       simp[enter,this]
     rw[e1,e2]
     exact rE
 have H:=JB (Y:=⟨X,B,K⟩) lW
 refine wpIn_seq (wpIn_mono (wpIn_region (Q:=fun ex a w'=>ex= .normal∧iG ⟨X,B,K⟩ ⟨w,φ0,(enter [a0]).O⟩ ⟨fn.ntmps,w.heap.size,none⟩ ((enter [a0]).put (some 2) .nils) a w') ?_) ?_)
 · rw[List.range_eq_range']
   refine ee H (h:=({n:=fn.ntmps}:Hints)) (.none rfl rfl) rfl h0 Hm.size 0 (by omega) kD (by rw[List.drop_zero,NG];rfl) fun a' w' ic=> ⟨rfl,ic⟩
 rintro ex a1 w1 ⟨rfl,nO⟩
 refine wpIn_seq (wpIn_seq (wpIn_region ?_))
 have aaJ:List.range (#[o1,o2]:Array Oper).size=[0,1]:=rfl
 rw[aaJ,wpOpsIn_cons]
 have eT0: ((enter [a0]).put (some 2) .nils).T 0=a0:=hT0
 have X5:ei MQ Y8 ao1 ((enter [a0]).put (some 2) .nils)=some (((enter [a0]).put (some 2) .nils).put (some 3) a0):=by
   have hs:ei MQ Y8 (strip ao1) ((enter [a0]).put (some 2) .nils)=some (((enter [a0]).put (some 2) .nils).put (some 3) a0):=by
     rw[k1]
     show some (((enter [a0]).put (some 2) .nils).put (some 3) (((enter [a0]).put (some 2) .nils).T 0))=_
     rw[eT0]
   exact hs
 refine oV H (h:=({n:=fn.ntmps}:Hints)) (.none rfl rfl) (o:=o1) rfl KX rfl nO X5 fun a2 w2 vP=> ?_
 generalize hσ2: ((enter [a0]).put (some 2) .nils).put (some 3) a0=σ2 at vP
 have e23:σ2.T 3=a0:=by rw[←hσ2];rfl
 have e20:σ2.T 0=a0:=by rw[←hσ2];exact hT0
 have e2O:σ2.O=fun _=>bB:=by rw[←hσ2];exact hO
 rw[wpOpsIn_cons]
 obtain⟨G9,X6,φ2,ph,ME⟩:=vP
 have xR:=ph.tmps 3
 rw[e23] at xR
 obtain⟨ad,n,cap,vd⟩: ∃ad n cap,a2.tmps.getD 3 undef= .slice ad n cap:=by
   rcases eU with rfl| ⟨rfl,_⟩
   · simp only[ak] at xR
     obtain⟨_,_,a,c,_,h,_⟩:=xR
     exact⟨_,_,_,h⟩
   · simp only[ak] at xR
     obtain⟨a,h⟩:=xR
     exact⟨_,_,_,h⟩
 have uS:ad.isNone=true→xs=[]:=by
   intro hn
   rcases eU with rfl| ⟨rfl,h9⟩
   · simp only[ak] at xR
     obtain⟨_,_,a,c,_,h,_,_,h'⟩:=xR
     rw[vd] at h
     injection h with h _ _
     rcases h' with h'| ⟨b,o,h',_⟩
     · exact h'
     · rw[h,h'] at hn;simp at hn
   · exact h9
 have heq: (Op.equal t (.slice ad n cap) (.slice none 0 0)).run X.P w2= .ok ad.isNone w2:=run_equal_slice_nil w2 t e ad n cap hty
 have iF: (execOp a2.eval o2).run X.P w2= .ok (.value (.bool ad.isNone)) w2:=by
   simp only[execOp,X4]
   refine bS ?_
   have ev:a2.eval (.tmp 3)= .slice ad n cap:=by simpa [Go.Act.eval] using vd
   have dV:a2.eval (.const (.slice none 0 0))= .slice none 0 0:=rfl
   simp[eqGuard,ev,dV,Go.binOp,Sem.run_bind,heq]
 have sP: (#[o1,o2]:Array Oper)[1]? =some o2:=rfl
 simp only[wpOpIn,sP]
 rw[if_pos (by simp[Region.wanted,MO])]
 refine yk (by rw[X4];simp) ?_
 unfold Oper.wp
 rw[iF,Oper.upon_value]
 simp only[wpOpsIn]
 have CN:iG ⟨X,B,K⟩ ⟨w,φ0,(enter [a0]).O⟩ ⟨fn.ntmps,w.heap.size,none⟩ (σ2.put (some 4) (.bool ad.isNone)) (a2.put o2.dst (.bool ad.isNone)) w2:=by
   rw[AR]
   refine⟨by rw[put_defers];exact G9,by rw[kz];exact X6,φ2,?_,?_⟩
   · exact nI ph (Le.refl _) ph.aY (by simp[ak]) (by simp;rw[X6];simp;omega) σ2.O
   · exact ME
 generalize a2.put o2.dst (.bool ad.isNone)=a3 at CN ⊢
 have EY:a3.eval (.tmp 4)= .bool ad.isNone:=vb (c':= .tmp 4) CN rfl rfl
 have Cm:V.aq xs=true∧xs.all (aO · sz)=true:=by
   rcases eU with rfl| ⟨rfl,h9⟩
   · simp only[ak] at xR
     obtain⟨k1,k2,a,c,vs,_,_,k3,k4⟩:=xR
     refine⟨k1,?_⟩
     rcases k4 with rfl| ⟨b,o,_,_,_,k5⟩
     · rfl
     · rw[List.all_eq_true] at k2 ⊢
       intro x hx
       obtain⟨i,hi⟩:=List.mem_iff_getElem?.1 hx
       obtain⟨v,hv1,EZ⟩:=aj.get k3 hi
       have:=(k5 i v hv1).1
       rw[EZ.cV (k2 x hx)] at this
       simp[aO,this,k2 x hx]
   · subst h9;exact⟨rfl,rfl⟩
 have X7: ∀ (a':Go.Act) (w':World) (O':Nat→Obj),Marks ⟨fn.ntmps,w.heap.size,none⟩ w' a'.defers→(∃φ',Le ⟨w,φ0,(enter [a0]).O⟩ ⟨w',φ',O'⟩∧bc ⟨X,B,K⟩ ⟨w',φ',O'⟩∧ ∃r g,1≤r∧ak ⟨X,B,K⟩ ⟨w',φ',O'⟩ (.sl r g 0 xs.length) (a'.tmps.getD 2 undef)∧O' r=⟨g,sz,true,false,some xs⟩)→
     bodyPostM (Fr none) 0 X.P fn (fun| .returned val,w'=> ∃φ' T' O' v0 refs,Le ⟨w,φ0,(enter [a0]).O⟩ ⟨w',φ',O'⟩∧bc ⟨X,B,K⟩ ⟨w',φ',O'⟩∧ak ⟨X,B,K⟩ ⟨w',φ',O'⟩ v0 val∧cR [a0].length ⟨T',O'⟩ v0 (dk.mk (.own sz xs) []).val refs∧distinct refs=true∧bO O' 0 [a0]=some (dk.mk (.own sz xs) []).outs| _,_=>False) .ret a' w':=by
   rintro a' w' O' hd ⟨φ',k1,k2,r,g,k3,k4,k5⟩
   refine sB (fun w'=> (Le ⟨w,φ0,(enter [a0]).O⟩ ⟨w',φ',O'⟩∧bc ⟨X,B,K⟩ ⟨w',φ',O'⟩)∧ak ⟨X,B,K⟩ ⟨w',φ',O'⟩ (.sl r g 0 xs.length) (a'.tmps.getD 2 undef)) (fun w1 D h1 h2 ⟨⟨hle,EV⟩,hv⟩=> ⟨⟨BR hle h1,wX EV h2⟩,ak.cg (js (μ:=⟨w1,φ',O'⟩) h2 rfl rfl) hv⟩) ?_ hd ⟨⟨k1,k2⟩,k4⟩
   rintro w' ⟨⟨k1,k2⟩,k4⟩
   refine⟨a'.tmps.getD 2 undef,by simp[results,kL],φ',fun _=>dC,O',_,[r],k1,k2,k4,.one ?_,rfl,fH w9⟩
   have MT:aJ xs 0 xs.length=xs:=kS rfl
   have hnr: ¬r< [a0].length:=by simp;omega
   simp only[cu,V.aB,bH,k5,MT,Cm.1,hnr]
   simp
 cases hb:ad.isNone with
 | true=>
   rw[hb] at EY
   obtain rfl:=uS hb
   refine wpIn_cond_true EY (wpIn_seq (wpIn_region ?_))
   rw[List.range_eq_range']
   refine ee H (h:=({n:=fn.ntmps}:Hints)) (.none rfl rfl) rfl h2 Hn.size 0 (by omega) CN (σ':=(σ2.put (some 4) (.bool ad.isNone)).put (some 2) .nils) (by rw[List.drop_zero,k2'];rfl) fun a' w' ic=> ?_
   refine wpIn_ret ?_
   obtain⟨kJ,_,φ,qM,qx⟩:=ic
   have eO: ((σ2.put (some 4) (.bool ad.isNone)).put (some 2) .nils).O=fun _=>bB:=e2O
   have EZ:=qM.tmps 2
   have e2: ((σ2.put (some 4) (.bool ad.isNone)).put (some 2) .nils).T 2= .nils:=rfl
   rw[e2] at EZ
   have fo:=qM.aY
   rw[eO] at qx fo
   simp only[ak] at EZ
   obtain⟨aa,haa⟩:=EZ
   refine X7 a' w' (dg (fun _=>bB) 1 ⟨1,sz,true,false,some []⟩) kJ ⟨dg φ 1 ⟨0,0,0⟩,qx.trans ⟨Nat.le_refl _,fun b hb hn=> ⟨rfl,?_⟩,fun r=> ?_,fun r hr=> ?_,rfl,rfl,rfl,fun _ _=>rfl⟩,⟨fun r es bl=> ?_,fun r r' _ h1 h2 h3 h4=> ?_,fun r h1 h2=> ?_,fo.blt⟩,1,1,Nat.le_refl _,?_,rfl⟩
   · rintro⟨r,h1,h2,h3,h4⟩
     by_cases e:r=1
     · subst e;simp[dg] at h3
     · simp[dg,e,bB] at h1
   · simp only[bB];omega
   · by_cases e:r=1
     · subst e;simp[dg,bB] at hr
     · simp[dg,e]
   · by_cases e:r=1
     · subst e
       simp only[dg,if_true,Option.some.injEq] at bl ⊢
       subst bl
       left
       unfold jN
       simp only[dg,if_true]
       exact⟨vI,by simp,rfl,by simp⟩
     · simp[dg,e,bB] at bl
   · by_cases e:r=1
     · subst e;simp[dg] at h3
     · simp[dg,e,bB] at h1
   · by_cases e:r=1
     · subst e;simp[dg] at h2
     · simp[dg,e,bB] at h1
   · simp only[ak]
     exact⟨aa,0,haa,by simp,by simp[dg],fun _=> ⟨by simpa [dg] using vI,by simp[dg],by simp⟩⟩
 | false=>
   rw[hb] at EY
   refine wpIn_cond_false EY (wpIn_skip ?_)
   refine wpIn_seq (wpIn_region ?_)
   have hw3:Io MQ [⟨some 5,.buildSlice 96 sz zero 0 [],none,[]⟩,⟨some 6,.move (.tmp 0),none,[]⟩,⟨some 7,.append 128 sz gr (.tmp 5) (.tmp 6),none,[]⟩,⟨some 2,.move (.tmp 7),none,[]⟩] (σ2.put (some 4) (.bool ad.isNone))
       (fun σ'=> ∃g,σ'.T 2= .sl 96 g 0 xs.length∧σ'.O 96=⟨g,sz,true,false,some xs⟩):=by
     have X8:σ2.O 96=bB:=by rw[e2O]
     have Nr:0*sz≤16777216:=by simp
     have hzb:=rz
     simp only[aO,V.cJ] at hzb
     have C6: ∀ (k:List V→Act),content sz a0 k=k xs:=by
       intro k
       rcases eU with rfl| ⟨rfl,rfl⟩ <;>simp[content]
     by_cases hx:xs=[]
     · subst hx
       simp only[nd,kN,kc,pz,s7,nc,ng,pA,pq,s6,pC,s8,dm,gU,ni,kR,aw.jE,tD,tE,tF,pn,po,tG,xm,pt,ma,pw,lZ,pr,tH,xn,aO,V.cJ,V.aB,V.aq,V.isScalar,V.bb,tL,fH,kQ,iZ,qP,E8,E9,AX,AY,tJ,qO,bB,andThen,tI,jD,gS,Fb,dC,dk.mk.injEq,V.int.injEq,V.tuple.injEq,List.cons.injEq,V.bool.injEq,V.str.injEq,V.agg.injEq,List.getD_cons_zero,List.getD_cons_succ,List.getD_nil,List.length_cons,List.length_nil,List.getElem?_cons_zero,List.getElem?_cons_succ,List.set_cons_zero,List.set_cons_succ,List.take_succ_cons,List.take_zero,List.drop_succ_cons,List.drop_zero,List.take_nil,List.drop_nil,List.cons_append,List.nil_append,List.append_nil,Nat.zero_add,Nat.add_zero,Nat.reduceAdd,Nat.reduceSub,Nat.reduceMul,Nat.reduceEqDiff,Nat.reduceLT,Nat.reduceLeDiff,Nat.reduceBEq,BEq.rfl,Bool.true_or,Bool.or_true,Bool.false_or,Bool.or_false,Bool.and_true,Bool.true_and,Bool.and_false,Bool.false_and,Bool.and_self,Bool.or_self,Bool.false_eq_true,Bool.true_eq_false,Bool.not_true,Bool.not_false,Nat.lt_add_one,Nat.le_refl,decide_true,decide_false,decide_eq_true_eq,if_true,if_false,↓reduceIte,true_and,and_true,and_self,false_and,and_false,reduceCtorEq,Nat.sub_zero,Option.some.injEq,Nat.zero_lt_one,Nat.lt_irrefl,ne_eq,not_true_eq_false,not_false_eq_true,V.cells.eq_1,V.cells.eq_2,V.isAgg.eq_1,V.isAgg.eq_2,V.aK.eq_1,V.aK.eq_2,V.aK.eq_3,V.aK.eq_4,V.aK.eq_5,V.aK.eq_6,V.aK.eq_7,V.isTuple.eq_1,V.isTuple.eq_2,AM.part.eq_1,AM.part.eq_2,AM.part.eq_3,AM.part.eq_4,AM.cP.eq_1,AM.cP.eq_2,AM.cP.eq_3,AM.cP.eq_4,nM.eq_1,nM.eq_2,nM.eq_3,nM.eq_4,bC.eq_1,bC.eq_2,bC.eq_3,eu.eq_1,eu.eq_2,content.eq_1,content.eq_2,content.eq_3,content.eq_4,content.eq_5,de.eq_1,de.eq_2,b6.eq_1,b6.eq_2,sM.eq_1,sM.eq_2,b8.eq_1,b8.eq_2,b8.eq_3,b8.eq_4,b8.eq_5,b8.eq_6,dN.eq_1,dN.eq_2,iH.eq_1,iH.go.eq_1,iH.go.eq_2,bT.eq_1,bT.eq_2,dJ.eq_1,dJ.eq_2,dx.eq_1,dx.eq_2,bL.eq_1,bL.eq_2,bL.eq_3,cm.eq_1,cm.eq_2,bH.eq_1,bH.eq_2,br.eq_1,br.eq_2,cu.eq_1,cu.eq_2,cu.eq_3,b9.eq_1,b9.eq_2,ek.eq_1,ek.eq_2,cG.eq_1,cG.eq_2,bO.eq_1,bO.eq_2,bO.eq_3,bO.eq_4,bU.eq_1,bU.eq_2,bU.eq_3,bU.eq_4,bU.eq_5,bU.eq_6,bU.eq_7,bU.eq_8,bU.eq_9,bU.eq_10,bU.eq_11,bU.eq_12,bU.eq_13,bU.eq_14,bU.eq_15,bU.eq_16,bU.eq_17,bU.eq_18,bU.eq_19,bU.eq_20,bU.eq_21,cZ.eq_1,cZ.eq_2,cZ.eq_3,cZ.eq_4,cZ.eq_5,cZ.eq_6,cZ.eq_7,A0.eq_1,A0.eq_2,A0.eq_3,A0.eq_4,min2.eq_1,min2.eq_2,max2.eq_1,max2.eq_2,gu.eq_1,gu.eq_2,fS.eq_1,fS.eq_2,vM.eq_1,vM.eq_2,vM.eq_3,vM.eq_4,ez.eq_1,ez.eq_2,ez.eq_3,eE.eq_1,eE.eq_2,dK.eq_1,dK.eq_2,ev.eq_1,ev.eq_2,fg.eq_1,fg.eq_2,vE.eq_1,vE.eq_2,gB.eq_1,gB.eq_2,gB.eq_3,cz.eq_1,cz.eq_2,leave.eq_1,distinct.eq_1,distinct.eq_2,fin.eq_1,fin.eq_2,fin.eq_3,aw.eq_1,aw.eq_2,aw.eq_3,aw.eq_4,aw.eq_5,aw.eq_6,aw.eq_7,aw.eq_8,aw.eq_9,aw.eq_10,aw.eq_11,aw.eq_12,aw.eq_13,aw.eq_14,aw.eq_15,aw.eq_16,aw.eq_17,aw.eq_18,aw.eq_19,aw.eq_20,aw.eq_21,aw.eq_23,aw.eq_24,aw.eq_26,aw.eq_27,aw.eq_28,aw.eq_29,aw.eq_30,aw.eq_31,aw.eq_32,aw.eq_34,aw.eq_35,aw.eq_36,aw.eq_37,aw.eq_38,oE.eq_1,apart,b7.eq_1,b7.eq_2,cn.eq_1,cn.eq_2,cn.eq_3,eW.eq_1,eW.eq_2,List.map_nil,List.map_cons,List.all_nil,List.all_cons,List.contains_nil,List.contains_cons,ja.eq_1,ja.eq_2,Option.isSome_some,Option.isSome_none,Option.isNone_none,Option.isNone_some,pE,xo,bne_self_eq_false,Bool.bne_true,Bool.bne_false,Bool.true_bne,Bool.false_bne,kS,List.isEmpty_cons,List.isEmpty_nil,eq_self,List.replicate_succ,List.replicate_zero,qQ,Int.cast_ofNat_Int,Int.reduceToNat,Int.toNat_zero,Int.toNat_one,Int.reduceAdd,Int.reduceSub,Int.reduceMul,Int.reduceNeg,Int.reduceLE,Int.reduceLT,Int.reduceEq,Int.neg_ofNat_le_ofNat,Int.natCast_nonneg,Int.toNat_natCast,Int.toNat_natCast_add_one,Int.ofNat_lt,wrap64,Int.le_refl,e20,X8,C6,hzb,Nr,vI,Fa (show ([]:List V).all (aO · sz)=true from rfl),Nat.zero_le,overwrite]
       exact⟨1,rfl,rfl⟩
     · have xz: ¬xs.length≤0:=by
        intro h;exact hx (List.eq_nil_of_length_eq_zero (by omega))
       simp only[nd,kN,kc,pz,s7,nc,ng,pA,pq,s6,pC,s8,dm,gU,ni,kR,aw.jE,tD,tE,tF,pn,po,tG,xm,pt,ma,pw,lZ,pr,tH,xn,aO,V.cJ,V.aB,V.aq,V.isScalar,V.bb,tL,fH,kQ,iZ,qP,E8,E9,AX,AY,tJ,qO,bB,andThen,tI,jD,gS,Fb,dC,dk.mk.injEq,V.int.injEq,V.tuple.injEq,List.cons.injEq,V.bool.injEq,V.str.injEq,V.agg.injEq,List.getD_cons_zero,List.getD_cons_succ,List.getD_nil,List.length_cons,List.length_nil,List.getElem?_cons_zero,List.getElem?_cons_succ,List.set_cons_zero,List.set_cons_succ,List.take_succ_cons,List.take_zero,List.drop_succ_cons,List.drop_zero,List.take_nil,List.drop_nil,List.cons_append,List.nil_append,List.append_nil,Nat.zero_add,Nat.add_zero,Nat.reduceAdd,Nat.reduceSub,Nat.reduceMul,Nat.reduceEqDiff,Nat.reduceLT,Nat.reduceLeDiff,Nat.reduceBEq,BEq.rfl,Bool.true_or,Bool.or_true,Bool.false_or,Bool.or_false,Bool.and_true,Bool.true_and,Bool.and_false,Bool.false_and,Bool.and_self,Bool.or_self,Bool.false_eq_true,Bool.true_eq_false,Bool.not_true,Bool.not_false,Nat.lt_add_one,Nat.le_refl,decide_true,decide_false,decide_eq_true_eq,if_true,if_false,↓reduceIte,true_and,and_true,and_self,false_and,and_false,reduceCtorEq,Nat.sub_zero,Option.some.injEq,Nat.zero_lt_one,Nat.lt_irrefl,ne_eq,not_true_eq_false,not_false_eq_true,V.cells.eq_1,V.cells.eq_2,V.isAgg.eq_1,V.isAgg.eq_2,V.aK.eq_1,V.aK.eq_2,V.aK.eq_3,V.aK.eq_4,V.aK.eq_5,V.aK.eq_6,V.aK.eq_7,V.isTuple.eq_1,V.isTuple.eq_2,AM.part.eq_1,AM.part.eq_2,AM.part.eq_3,AM.part.eq_4,AM.cP.eq_1,AM.cP.eq_2,AM.cP.eq_3,AM.cP.eq_4,nM.eq_1,nM.eq_2,nM.eq_3,nM.eq_4,bC.eq_1,bC.eq_2,bC.eq_3,eu.eq_1,eu.eq_2,content.eq_1,content.eq_2,content.eq_3,content.eq_4,content.eq_5,de.eq_1,de.eq_2,b6.eq_1,b6.eq_2,sM.eq_1,sM.eq_2,b8.eq_1,b8.eq_2,b8.eq_3,b8.eq_4,b8.eq_5,b8.eq_6,dN.eq_1,dN.eq_2,iH.eq_1,iH.go.eq_1,iH.go.eq_2,bT.eq_1,bT.eq_2,dJ.eq_1,dJ.eq_2,dx.eq_1,dx.eq_2,bL.eq_1,bL.eq_2,bL.eq_3,cm.eq_1,cm.eq_2,bH.eq_1,bH.eq_2,br.eq_1,br.eq_2,cu.eq_1,cu.eq_2,cu.eq_3,b9.eq_1,b9.eq_2,ek.eq_1,ek.eq_2,cG.eq_1,cG.eq_2,bO.eq_1,bO.eq_2,bO.eq_3,bO.eq_4,bU.eq_1,bU.eq_2,bU.eq_3,bU.eq_4,bU.eq_5,bU.eq_6,bU.eq_7,bU.eq_8,bU.eq_9,bU.eq_10,bU.eq_11,bU.eq_12,bU.eq_13,bU.eq_14,bU.eq_15,bU.eq_16,bU.eq_17,bU.eq_18,bU.eq_19,bU.eq_20,bU.eq_21,cZ.eq_1,cZ.eq_2,cZ.eq_3,cZ.eq_4,cZ.eq_5,cZ.eq_6,cZ.eq_7,A0.eq_1,A0.eq_2,A0.eq_3,A0.eq_4,min2.eq_1,min2.eq_2,max2.eq_1,max2.eq_2,gu.eq_1,gu.eq_2,fS.eq_1,fS.eq_2,vM.eq_1,vM.eq_2,vM.eq_3,vM.eq_4,ez.eq_1,ez.eq_2,ez.eq_3,eE.eq_1,eE.eq_2,dK.eq_1,dK.eq_2,ev.eq_1,ev.eq_2,fg.eq_1,fg.eq_2,vE.eq_1,vE.eq_2,gB.eq_1,gB.eq_2,gB.eq_3,cz.eq_1,cz.eq_2,leave.eq_1,distinct.eq_1,distinct.eq_2,fin.eq_1,fin.eq_2,fin.eq_3,aw.eq_1,aw.eq_2,aw.eq_3,aw.eq_4,aw.eq_5,aw.eq_6,aw.eq_7,aw.eq_8,aw.eq_9,aw.eq_10,aw.eq_11,aw.eq_12,aw.eq_13,aw.eq_14,aw.eq_15,aw.eq_16,aw.eq_17,aw.eq_18,aw.eq_19,aw.eq_20,aw.eq_21,aw.eq_23,aw.eq_24,aw.eq_26,aw.eq_27,aw.eq_28,aw.eq_29,aw.eq_30,aw.eq_31,aw.eq_32,aw.eq_34,aw.eq_35,aw.eq_36,aw.eq_37,aw.eq_38,oE.eq_1,apart,b7.eq_1,b7.eq_2,cn.eq_1,cn.eq_2,cn.eq_3,eW.eq_1,eW.eq_2,List.map_nil,List.map_cons,List.all_nil,List.all_cons,List.contains_nil,List.contains_cons,ja.eq_1,ja.eq_2,Option.isSome_some,Option.isSome_none,Option.isNone_none,Option.isNone_some,pE,xo,bne_self_eq_false,Bool.bne_true,Bool.bne_false,Bool.true_bne,Bool.false_bne,kS,List.isEmpty_cons,List.isEmpty_nil,eq_self,List.replicate_succ,List.replicate_zero,qQ,Int.cast_ofNat_Int,Int.reduceToNat,Int.toNat_zero,Int.toNat_one,Int.reduceAdd,Int.reduceSub,Int.reduceMul,Int.reduceNeg,Int.reduceLE,Int.reduceLT,Int.reduceEq,Int.neg_ofNat_le_ofNat,Int.natCast_nonneg,Int.toNat_natCast,Int.toNat_natCast_add_one,Int.ofNat_lt,wrap64,Int.le_refl,e20,X8,C6,hzb,Nr,vI,Fa Cm.2,Cm.1,sS,Nat.zero_le,xz]
       exact⟨2,rfl,rfl⟩
   obtain⟨n,σ4,X9,g,XC,MO⟩:=hw3
   rw[List.range_eq_range']
   refine ee (MS (Y:=⟨X,B,K⟩) lW n) (h:=({n:=fn.ntmps}:Hints)) (.none rfl rfl) rfl h3 Ho.size 0 (by omega) CN (by rw[List.drop_zero,k3'];exact X9) fun a' w' ic=> ?_
   refine wpIn_ret ?_
   obtain⟨kJ,_,φ,qM,qx⟩:=ic
   have EZ:=qM.tmps 2
   rw[XC] at EZ
   exact X7 a' w' σ4.O kJ ⟨φ,qx,qM.aY,96,g,by omega,EZ,MO⟩
end
end Go.AM
namespace Go.AM
open Go Go.RowKit Go.ChangeShapes Go.WideShapes
theorem Ep {H:Type} {enc:TypeId×Value→H} {P:Program} {f:Func} {s:ChangeSpec} {apart fresh handsOn again:Bool} {W W':World} {args:Array Value} {v:Value} {ds gs:List (DataW H)} {before pa pv:List MemPlace}
   (hW:DataW.Whole enc P f.params.toList s.vars apart W args.toList ds gs before)
   (kL: ∀ (b:Nat) (sp:Nat→Bool) (hd:Bool),DataW.TrodAll enc P W' b sp hd f.resultTypes.toList (v.resultList f.resultTypes.size) (s.fn H (ds++gs)).results [])
   (fq: ∀sp:Nat→Bool,(∀p ∈ before,sp p.block=true)→DataW.TrodAll enc P W' 0 sp true f.params.toList args.toList (s.fn H (ds++gs)).args pa)
   (La: ∀sp:Nat→Bool,(∀p ∈ before,sp p.block=true)→DataW.TrodVars enc P W' sp s.vars (s.fn H (ds++gs)).vars pv)
   (vG:before=pa++pv) (hk:W.keptBut W' (· ∈ before)) (fN: ∀a,a.block<W.heap.size→W'.frozen? a=W.frozen? a)
   (tx: ∀ (j:Nat) (t:TypeId) (r:Value),f.resultTypes[j]? =some t→(v.resultList f.resultTypes.size)[j]? =some r→Value.okWide P W' .any 0 t r):
   s.post enc P f apart fresh handsOn again W args v W':=by
 have hold: ∀p ∈ before,(fun b=>decide (b<W.heap.size)) p.block=true:=fun p hp=>by simpa using hW.lt p hp
 have bp:=hW.lt
 refine⟨ds,gs,before,[],pa,pv,hW,kL _ _ _,fq _ hold,La _ hold,World.keptBut_mono (fun p hp=> ⟨hp,?_⟩) hk,fun _=> ?_⟩
 · rw[vG,List.mem_append] at hp
   exact Or.inr hp
 · obtain⟨_,_,_,_,_,hz,hn⟩:=hW
   refine⟨tx,_,_,([]++pa)++pv,⟨[]++pa,pv,trodAll_append (fq _ (fun _ _=>rfl)) (kL _ _ _),La _ (fun _ _=>rfl),rfl,?_,?_⟩,?_⟩
   · intro b off hp
     have hb:MemPlace.cell b off ∈ before:=by rw[vG];simpa using hp
     rw[fN _ (bp _ hb)]
     exact hz b off hb
   · intro ha
     have:=hn ha
     rw[vG] at this
     simpa using this
   · intro p hp _
     rw[vG]
     simpa using hp
end Go.AM
namespace Go.AM
open Go Go.RowKit
section
variable (P:Program)
def mV (e:TypeId) (ws:List V):V:=match P.underlying e with
 | some (.struct _) | some (.array ..)=> .agg ws
 | _=>ws.headD dC
def Lb (tv:TypeId→List V→Prop):List Field→List V→Prop
 | [],vs=>vs=[]
 | f::fs,vs=> ∃a b,vs=a++b∧a.length=P.cellsOf f.type∧tv f.type a∧Lb tv fs b
def TVA (tv:List V→Prop) (s:Nat):Nat→List V→Prop
 | 0,vs=>vs=[]
 | k+1,vs=> ∃a b,vs=a++b∧a.length=s∧tv a∧TVA tv s k b
def TV:Nat→TypeId→List V→Prop
 | 0,_,_=>False
 | n+1,t,vs=>match P.underlying t with
   | some .bool=> ∃b,vs=[.bool b]
   | some (.int k)=> ∃x,vs=[.int k x]∧(Lit.int k x).wf=true
   | some .string=> ∃s,vs=[.str s]∧s.length≤maxLen
   | some (.slice e)=>vs=[.nils]∨ ∃xs,vs=[.lit (P.cellsOf e) xs]∧xs.length≤maxLen∧ ∀x ∈ xs,∃ws,TV n e ws∧x=mV P e ws
   | some (.struct fs)=>Lb P (TV n) fs.toList vs
   | some (.array k e)=>TVA (TV n e) (P.cellsOf e) k vs
   | _=>False
def mW:List Field→Nat→Option Nat
 | [],off=>some off
 | f::fs,off=>if f.offset=off then mW fs (off+P.cellsOf f.type) else none
def yu (S:List TypeId) (t:TypeId):Bool:=match P.underlying t with
 | some .bool| some (.int _) | some .string=>P.cellsOf t==1
 | some (.slice e)=>P.cellsOf t==1 &&decide (0 <P.cellsOf e) &&S.contains e
 | some (.struct fs)=> (mW P fs.toList 0==some (P.cellsOf t)) &&fs.toList.all fun f=>S.contains f.type
 | some (.array k e)=>S.contains e &&P.cellsOf t==k*P.cellsOf e
 | _=>false
end
section
variable {X:TrEnv} {H:Type} {enc:TypeId×Value→H} {w:World} {S:List TypeId} {base:Nat} {spare:Nat→Bool} {held:Bool}
abbrev still (w:World) (φ:Nat→Row):Mu:=⟨w,φ,fun _=>bB⟩
abbrev free (X:TrEnv):Ctx:=⟨X,fun _=>False,(0,0)⟩
def Good (X:TrEnv) (w:World) (n:Nat) (t:TypeId) (vs:List V) (cs:List Value):Prop:=
 TV X.P n t vs∧vs.all V.aK=true∧V.aq vs=true∧ ∀φ,aj (free X) (still w φ) vs cs
theorem lG: ∀ {a b:List V},V.aq (a++b)=(V.aq a &&V.aq b)
 | [],b=>by simp[V.aq]
 | x::a,b=>by simp[V.aq,lG (a:=a),Bool.and_assoc]
theorem sD {n:Nat}: ∀ {fs:List Field} {cs:List Value} {off total:Nat},mW X.P fs off=some total→cs.length=total→
   (∀f ∈ fs,∃vs,Good X w n f.type vs ((cs.drop f.offset).take (X.P.cellsOf f.type)))→
   ∃vs,Lb X.P (TV X.P n) fs vs∧vs.all V.aK=true∧V.aq vs=true∧ ∀φ,aj (free X) (still w φ) vs (cs.drop off)
 | [],cs,off,total,hc,hl,_=>by
   simp only[mW,Option.some.injEq] at hc
   subst hc
   refine⟨[],rfl,rfl,rfl,fun φ=> ?_⟩
   rw[List.drop_eq_nil_of_le (by omega)];simp[aj]
 | f::fs,cs,off,total,hc,hl,hf=>by
   simp only[mW] at hc
   split at hc
   · rename_i ho
     subst ho
     obtain⟨a,kK,Y9,Za,NH⟩:=hf f (by simp)
     obtain⟨b,tq,Jr,Ya,Zb⟩:=sD hc hl (fun g hg=>hf g (by simp[hg]))
     have hle:f.offset+X.P.cellsOf f.type≤total:=by
      clear kK Y9 Za NH tq Jr Ya Zb hf
      have: ∀ (fs:List Field) (o tt:Nat),mW X.P fs o=some tt→o≤tt:=by
       intro fs
       induction fs with
       | nil=>intro o tt h;simp[mW] at h;omega
       | cons g gs ih=>
         intro o tt h
         simp only[mW] at h
         split at h
         · have:=ih _ _ h;omega
         · simp at h
      exact this _ _ _ hc
     have Pv:a.length=X.P.cellsOf f.type:=by
      have:=(NH (fun _=> ⟨0,0,0⟩)).length
      rw[this];simp;omega
     refine⟨a++b,⟨a,b,rfl,Pv,kK,tq⟩,by simp[Y9,Jr],by rw[lG,Za,Ya];rfl,fun φ=> ?_⟩
     have e:cs.drop f.offset=(cs.drop f.offset).take (X.P.cellsOf f.type)++cs.drop (f.offset+X.P.cellsOf f.type):=by
      rw[←List.drop_drop,List.take_append_drop]
     rw[e]
     exact aj.append (NH φ) (Zb φ)
   · simp at hc
theorem vh {n:Nat} {e:TypeId}: ∀ (k:Nat) {cs:List Value} (j:Nat),cs.length=(j+k)*X.P.cellsOf e→
   (∀i,i<j+k→ ∃vs,Good X w n e vs ((cs.drop (i*X.P.cellsOf e)).take (X.P.cellsOf e)))→
   ∃vs,TVA (TV X.P n e) (X.P.cellsOf e) k vs∧vs.all V.aK=true∧V.aq vs=true∧ ∀φ,aj (free X) (still w φ) vs (cs.drop (j*X.P.cellsOf e))
 | 0,cs,j,hl,_=>by
   refine⟨[],rfl,rfl,rfl,fun φ=> ?_⟩
   rw[List.drop_eq_nil_of_le (by rw[hl];simp)];simp[aj]
 | k+1,cs,j,hl,hf=>by
   obtain⟨a,kK,Y9,Za,NH⟩:=hf j (by omega)
   have e1:j+1+k=j+(k+1):=by omega
   obtain⟨b,tq,Jr,Ya,Zb⟩:=vh k (cs:=cs) (j+1) (by rw[e1];exact hl) (fun i hi=>hf i (by omega))
   have Pv:a.length=X.P.cellsOf e:=by
    have:=(NH (fun _=> ⟨0,0,0⟩)).length
    rw[this];simp
    rw[hl,←Nat.sub_mul]
    have:1≤j+(k+1) - j:=by omega
    exact Nat.min_eq_left (Nat.le_mul_of_pos_left _ this)
   refine⟨a++b,⟨a,b,rfl,Pv,kK,tq⟩,by simp[Y9,Jr],by rw[lG,Za,Ya];rfl,fun φ=> ?_⟩
   have e:cs.drop (j*X.P.cellsOf e)=(cs.drop (j*X.P.cellsOf e)).take (X.P.cellsOf e)++cs.drop ((j+1)*X.P.cellsOf e):=by
    rw[Nat.add_mul,Nat.one_mul,←List.drop_drop,List.take_append_drop]
   rw[e]
   exact aj.append (NH φ) (Zb φ)
theorem C7 {α:Type} {p:Nat→α→Prop}: ∀ (n:Nat),(∀i,i<n→ ∃x,p i x)→ ∃xs:List α,xs.length=n∧ ∀i x,xs[i]? =some x→p i x
 | 0,_=> ⟨[],rfl,by simp⟩
 | n+1,h=>by
   obtain⟨xs,h1,h2⟩:=C7 n (fun i hi=>h i (by omega))
   obtain⟨x,hx⟩:=h n (by omega)
   refine⟨xs++[x],by simp[h1],fun i y hy=> ?_⟩
   by_cases hi:i<xs.length
   · rw[List.getElem?_append_left hi] at hy;exact h2 i y hy
   · rw[List.getElem?_append_right (by omega)] at hy
     have:i - xs.length=0:=by
      have:=(List.getElem?_eq_some_iff.1 hy).1
      simp at this;omega
     rw[this] at hy
     simp at hy;subst hy
     have:i=n:=by omega
     subst this;exact hx
theorem trod_good (hS:S.all (yu X.P S)=true): ∀ (n:Nat) (t:TypeId) (cs:List Value) (x:DataW H×List MemPlace),t ∈ S→DataW.trod enc X.P w base spare held n t cs=some x→ ∃vs,Good X w n t vs cs:=by
 intro n
 induction n with
 | zero=>intro t cs x _ h;simp[DataW.trod] at h
 | succ n ih=>
   intro t cs x ht h
   have hp:=List.all_eq_true.1 hS t ht
   unfold yu at hp
   cases hu:X.P.underlying t with
   | none=>rw[hu] at hp;simp at hp
   | some desc=>
     rw[hu] at hp
     cases desc with
     | bool=>
       obtain⟨b,rfl,_⟩:=DataW.trod_bool hu h
       exact⟨[.bool b],by simp[TV,hu],rfl,rfl,fun φ=>by simp[aj,ak]⟩
     | int k=>
       obtain⟨m,rfl,_,hw⟩:=DataW.trod_int hu h
       exact⟨[.int k m],by simp[TV,hu,hw],rfl,rfl,fun φ=>by simp[aj,ak]⟩
     | string=>
       obtain⟨s,rfl,_,hm⟩:=DataW.trod_string hu h
       exact⟨[.str s.data.toList],by simp only[TV,hu];exact⟨_,rfl,by simpa using hm⟩,rfl,rfl,fun φ=>by simp only[aj,ak];exact⟨⟨s,rfl,rfl⟩,trivial⟩⟩
     | slice e=>
       simp only[Bool.and_eq_true,decide_eq_true_eq] at hp
       obtain⟨⟨_,xz⟩,he⟩:=hp
       have wE:e ∈ S:=by simpa using he
       rcases DataW.trod_slice hu h with⟨rfl,_⟩ | ⟨a,len,cap,elems,rest,m,hn,rfl,_,hb,hl,hm,hlen,te,_,_⟩
       · exact⟨[.nils],by simp[TV,hu],rfl,rfl,fun φ=>by simp only[aj,ak];exact⟨⟨none,rfl⟩,trivial⟩⟩
       · obtain rfl:n=m:=by omega
         have each: ∀i,i<len→ ∃q:V×Value,(∃ws,TV X.P n e ws∧q.1=mV X.P e ws)∧q.1.aB=true∧q.1.cJ=true∧(∀φ,ak (free X) (still w φ) q.1 q.2)∧
             q.2.cells.size=X.P.cellsOf e∧ ∀j c,q.2.cells[j]? =some c→w.cell? ((a.add (i*X.P.cellsOf e)).add j)=some c:=by
           intro i hi
           have h1:=te i hi
           rw[List.getElem?_eq_getElem (by omega)] at h1
           rw[Option.bind_eq_some_iff] at h1
           obtain⟨ct,hc,vJ⟩:=h1
           obtain⟨_,BE,gv⟩:=World.cells?_some hc
           obtain⟨ws,g1,g2,g3,g4⟩:=ih e ct _ wE vJ
           have lV:ws.length=ct.length:=(g4 (fun _=> ⟨0,0,0⟩)).length
           have j7: ∀ (v:Value),v.cells.toList=ct→v.cells.size=X.P.cellsOf e∧ ∀j c,v.cells[j]? =some c→w.cell? ((a.add (i*X.P.cellsOf e)).add j)=some c:=by
             intro v hv
             have hs:v.cells.size=ct.length:=by rw[←hv];simp
             refine⟨by rw[hs,BE],fun j c hj=> ?_⟩
             have Nw:ct[j]? =some c:=by rw[←hv];simpa using hj
             rw[gv j (by have:=(List.getElem?_eq_some_iff.1 Nw).1;omega)];exact Nw
           have DV: (∃fs,X.P.underlying e=some (.struct fs))∨(∃k e',X.P.underlying e=some (.array k e'))∨mV X.P e ws=ws.headD dC∧ws.length=1:=by
             have tu:=List.all_eq_true.1 hS e wE
             unfold yu at tu
             cases hue:X.P.underlying e with
             | none=>rw[hue] at tu;simp at tu
             | some d=>
               rw[hue] at tu
               cases d<;>simp at tu
               case struct fs=>exact .inl ⟨fs,rfl⟩
               case array k e'=>exact .inr (.inl ⟨k,e',rfl⟩)
               all_goals exact .inr (.inr ⟨by simp[mV,hue],by simp_all⟩)
           have asAgg:mV X.P e ws= .agg ws→ ∃q:V×Value,(∃ws,TV X.P n e ws∧q.1=mV X.P e ws)∧q.1.aB=true∧q.1.cJ=true∧(∀φ,ak (free X) (still w φ) q.1 q.2)∧
               q.2.cells.size=X.P.cellsOf e∧ ∀j c,q.2.cells[j]? =some c→w.cell? ((a.add (i*X.P.cellsOf e)).add j)=some c:=by
             intro Yb
             refine⟨(mV X.P e ws,.agg ct.toArray),⟨ws,g1,rfl⟩,?_,?_,fun φ=> ?_,j7 _ (by simp[Value.cells])⟩
             · simp only[Yb,V.aB,g3]
             · simp[Yb,V.cJ,V.isAgg]
             · simp only[Yb,ak];exact⟨g2,_,rfl,by simpa using g4 φ⟩
           rcases DV with⟨fs,hs⟩ | ⟨k,e',hs⟩ | ⟨Yb,h1⟩
           · exact asAgg (by simp[mV,hs])
           · exact asAgg (by simp[mV,hs])
           · match ws,h1,ct,lV,g1,g2,g3,g4,j7 with
             | [x],_,[c],_,g1,g2,g3,g4,j7=>
               have g4': ∀φ,ak (free X) (still w φ) x c:=fun φ=>by have:=g4 φ;simp only[aj] at this;exact this.1
               have g2':x.aK=true:=by simpa using g2
               refine⟨(x,c),⟨[x],g1,by simp[Yb]⟩,by simpa [V.aq] using g3,by simp[V.cJ,g2'],g4',j7 c ?_⟩
               rw[((g4' (fun _=> ⟨0,0,0⟩)).lr g2').2]
         obtain⟨qs,q1,q2⟩:=C7 len each
         refine⟨[.lit (X.P.cellsOf e) (qs.map (·.1))],?_,rfl,rfl,fun φ=> ?_⟩
         · simp only[TV,hu]
           refine .inr ⟨_,rfl,by simp[q1];omega,fun x hx=> ?_⟩
           obtain⟨q,hq,rfl⟩:=List.mem_map.1 hx
           obtain⟨i,hi⟩:=List.mem_iff_getElem?.1 hq
           exact(q2 i q hi).1
         · simp only[  aj,ak,and_true]
           refine⟨Al fun x hx=> ?_,?_,some a,cap,qs.map (·.2),by simp[q1],by simp[q1];omega,?_,?_⟩
           · obtain⟨q,hq,rfl⟩:=List.mem_map.1 hx
             obtain⟨i,hi⟩:=List.mem_iff_getElem?.1 hq
             exact(q2 i q hi).2.1
           · rw[List.all_eq_true]
             intro x hx
             obtain⟨q,hq,rfl⟩:=List.mem_map.1 hx
             obtain⟨i,hi⟩:=List.mem_iff_getElem?.1 hq
             exact(q2 i q hi).2.2.1
           · refine aj.uB (by simp) fun i y u hy hu=> ?_
             rw[List.getElem?_map] at hy hu
             cases hq:qs[i]? with
             | none=>simp[hq] at hy
             | some q=>
               simp[hq] at hy hu
               subst hy hu
               exact(q2 i q hq).2.2.2.1 φ
           · cases qs with
             | nil=>exact .inl rfl
             | cons q0 qs=>
               right
               have oi: ∀ (i:Nat) (q:V×Value),(q0::qs)[i]? =some q→ ∀j c,q.2.cells[j]? =some c→w.cell? ((a.add (i*X.P.cellsOf e)).add j)=some c:=fun i q hi=> (q2 i q hi).2.2.2.2.2
               have ck: ∀ (i:Nat) (q:V×Value),(q0::qs)[i]? =some q→q.2.cells.size=X.P.cellsOf e:=fun i q hi=> (q2 i q hi).2.2.2.2.1
               have h0:=oi 0 q0 rfl 0 (q0.2.cells[0]'(by rw[ck 0 q0 rfl];exact xz)) (Array.getElem?_eq_getElem _)
               obtain⟨ab,ao,asp⟩:=a
               have sO:asp=none∧ab<w.heap.size:=by
                 simp only[Nat.zero_mul,Addr.add,if_true,World.cell?] at h0
                 split at h0
                 ·  rename_i c T f hh
                    split at h0
                    · simp at h0
                    · rename_i hn
                      exact⟨by cases asp<;>simp_all,(Array.getElem?_eq_some_iff.1 hh).1⟩
                 · simp at h0
               obtain⟨rfl,bp⟩:=sO
               refine⟨ab,ao,rfl,?_,bp,fun i v hv=> ?_⟩
               · rintro(⟨r,h1,_⟩ | h)
                 · simp[bB] at h1
                 · exact h
               · rw[  List.getElem?_map] at hv
                 cases hq: (q0::qs)[i]? with
                 | none=>simp[hq] at hv
                 |  some q=>
                    simp[hq] at hv
                    subst hv
                    refine⟨ck i q hq,fun j c hc=> ?_⟩
                    have:=oi i q hq j c hc
                    have qg: ∀o m,Addr.add ⟨ab,o,none⟩ m=⟨ab,o+m,none⟩:=by
                      intro o m
                      simp only[Addr.add]
                      split
                      · rename_i h0;subst h0;rfl
                      · rfl
                    rw[qg,qg] at this
                    exact this
     | struct fs=>
       simp only[Bool.and_eq_true,beq_iff_eq] at hp
       obtain⟨C6,mm⟩:=hp
       obtain⟨xs,m,hm,_,hlen,Mw,hf⟩:=DataW.trod_struct hu h
       obtain rfl:n=m:=by omega
       have key: ∀f ∈ fs.toList,∃vs,Good X w n f.type vs ((cs.drop f.offset).take (X.P.cellsOf f.type)):=by
         intro f hfm
         obtain⟨i,hi⟩:=List.mem_iff_getElem?.1 hfm
         have AT:fs[i]? =some f:=by simpa using hi
         have h1:=hf i f AT
         have Zc:i<xs.length:=by rw[Mw];exact(Array.getElem?_eq_some_iff.1 AT).1
         rw[List.getElem?_eq_getElem Zc] at h1
         exact ih f.type _ _ (by have:=List.all_eq_true.1 mm f hfm;simpa using this) h1
       obtain⟨vs,k1,k2,k3,k4⟩:=sD C6 hlen key
       exact⟨vs,by simp only[TV,hu];exact k1,k2,k3,fun φ=>by simpa using k4 φ⟩
     | array k e=>
       simp only[Bool.and_eq_true,beq_iff_eq] at hp
       obtain⟨he,ck⟩:=hp
       obtain⟨xs,m,hm,_,hlen,Mw,hf⟩:=DataW.trod_array hu h
       obtain rfl:n=m:=by omega
       have key: ∀i,i< 0+k→ ∃vs,Good X w n e vs ((cs.drop (i*X.P.cellsOf e)).take (X.P.cellsOf e)):=by
         intro i hi
         have h1:=hf i (by omega)
         rw[List.getElem?_eq_getElem (by omega)] at h1
         exact ih e _ _ (by simpa using he) h1
       obtain⟨vs,k1,k2,k3,k4⟩:=vh k 0 (by rw[hlen,ck];simp) key
       exact⟨vs,by simp only[TV,hu];exact k1,k2,k3,fun φ=>by simpa using k4 φ⟩
     | _=>simp at hp
where
 Al {cs:List V} (h: ∀x ∈ cs,V.aB x=true):V.aq cs=true:=by
  induction cs with
  | nil=>rfl
  | cons c cs ih=>simp only[V.aq,Bool.and_eq_true];exact⟨h c (by simp),ih fun x hx=>h x (by simp[hx])⟩
end
end Go.AM
namespace Go.AM
open Go Go.RowKit
def B2 (X:TrEnv) (g:Nat) (af:aA):Prop:= ∃F fn h c,X.gq F=some g∧X.P.funcs[F]? =some fn∧(fn.name== "runtime.NumGoroutine")=false∧fn.body=some c∧uu X h fn=some af∧af.nparams≤fn.ntmps
def jz (X:TrEnv):List (Nat×aA)→Prop
 | []=>True
 | p::ps=>B2 X p.1 p.2∧jz X ps
def C8 (X:TrEnv) (g:Nat) (fn:List V→Option dk):Prop:= ∃F,X.gq F=some g∧ ∀as res,fn as=some res→cH X F as res
def o6 (X:TrEnv):List (Nat× (List V→Option dk))→Prop
 | []=>True
 | p::ps=>C8 X p.1 p.2∧o6 X ps
theorem jz.mem {X:TrEnv}: ∀ {tab:List (Nat×aA)},jz X tab→ ∀p ∈ tab,B2 X p.1 p.2
 | [],_,p,hp=>by simp at hp
 | q::qs,h,p,hp=>by
   rcases List.mem_cons.1 hp with rfl| hp
   · exact h.1
   · exact jz.mem h.2 p hp
theorem o6.mem {X:TrEnv}: ∀ {tab:List (Nat× (List V→Option dk))},o6 X tab→ ∀p ∈ tab,C8 X p.1 p.2
 | [],_,p,hp=>by simp at hp
 | q::qs,h,p,hp=>by
   rcases List.mem_cons.1 hp with rfl| hp
   · exact h.1
   · exact o6.mem h.2 p hp
def C9 (X:TrEnv) (g:Nat) (h:Lj):Prop:= ∃F,X.gq F=some g∧ ∀C:a9,(∀f F as res,X.gq F=some f→C f as=some res→cH X F as res)→ ∀as res,h.h C as=some res→cH X F as res
def rK (X:TrEnv):List (Nat×Lj)→Prop
 | []=>True
 | p::ps=>C9 X p.1 p.2∧rK X ps
theorem rK.mem {X:TrEnv}: ∀ {tab:List (Nat×Lj)},rK X tab→ ∀p ∈ tab,C9 X p.1 p.2
 | [],_,p,hp=>by simp at hp
 | q::qs,h,p,hp=>by
   rcases List.mem_cons.1 hp with rfl| hp
   · exact h.1
   · exact rK.mem h.2 p hp
def Am (X:TrEnv) (g:Nat) (it:List V→Option (List (List V))):Prop:= ∃F,X.gq F=some g∧ ∀caps xs,it caps=some xs→ ∀ (B:Nat→Prop) (K:Nat×Nat) (μ:Mu) (lb:Array Value),aj ⟨X,B,K⟩ μ caps lb.toList→bc ⟨X,B,K⟩ μ→tA ⟨X,B,K⟩ μ F lb xs
def lH (X:TrEnv):List (Nat× (List V→Option (List (List V))))→Prop
 | []=>True
 | p::ps=>Am X p.1 p.2∧lH X ps
theorem lH.mem {X:TrEnv}: ∀ {tab:List (Nat× (List V→Option (List (List V))))},lH X tab→ ∀p ∈ tab,Am X p.1 p.2
 | [],_,p,hp=>by simp at hp
 | q::qs,h,p,hp=>by
   rcases List.mem_cons.1 hp with rfl| hp
   · exact h.1
   · exact lH.mem h.2 p hp
def gP:List Nat→Bool
 | []=>true
 | x::xs=> !xs.contains x &&gP xs
theorem j9: ∀ {l:List Nat},gP l=true→ ∀ {i j x:Nat},l[i]? =some x→l[j]? =some x→i=j
 | [],_,i,j,x,h,_=>by simp at h
 | y::l,hd,i,j,x,hi,hj=>by
   simp only[gP,Bool.and_eq_true,Bool.not_eq_true'] at hd
   have eh: ∀k:Nat,l[k]? =some y→False:=fun k hk=>by
     have:l.contains y=true:=by simpa using List.mem_of_getElem? hk
     rw[hd.1] at this;simp at this
   cases i with
   | zero=>
     cases j with
     | zero=>rfl
     | succ j=>simp at hi hj;subst hi;exact(eh j hj).elim
   | succ i=>
     cases j with
     | zero=>simp at hi hj;subst hj;exact(eh i hi).elim
     | succ j=>simp at hi hj;rw[j9 hd.2 hi hj]
theorem An {P:Program} {fl:List Nat} {tl:List (Nat×Nat)} (hf:gP fl=true) (ht:gP (tl.map (·.2))=true) (hm:P.follows .mixedOrders=true) {tab:List (Nat×aA)} {ext:List (Nat× (List V→Option dk))} {hyb:List (Nat×Lj)} {iter:List (Nat× (List V→Option (List (List V))))}:
   let X:TrEnv:=⟨P,fun F=>fl[F]?,fun t=> (tl.find? (·.1==t)).map (·.2)⟩
   jz X tab→o6 X ext→rK X hyb→lH X iter→ve X (Nj tab ext hyb iter):=by
 intro X h1 h2 h3 h4
 have vj: ∀F F' g,X.gq F=some g→X.gq F'=some g→F=F':=fun F F' g h h'=>j9 hf h h'
 refine⟨fun t1 t2 k h h'=> ?_,hm,fun f af F h hF=> ?_,fun f as res F h hF=> ?_,fun g F caps xs h hF=> ?_,fun f g F h hF C hC as res hr=> ?_⟩
 · simp only[X,Option.map_eq_some_iff] at h h'
   obtain⟨p,hp,rfl⟩:=h
   obtain⟨q,hq,hqp⟩:=h'
   have e1:=List.find?_some hp
   have e2:=List.find?_some hq
   obtain⟨i,hi⟩:=List.mem_iff_getElem?.1 (List.mem_of_find?_eq_some hp)
   obtain⟨j,hj⟩:=List.mem_iff_getElem?.1 (List.mem_of_find?_eq_some hq)
   have:i=j:=j9 ht (i:=i) (j:=j) (x:=p.2) (by simp[hi]) (by simp[hj,hqp])
   subst this
   rw[hi] at hj;injection hj with hj;subst hj
   simp at e1 e2;exact e1.symm.trans e2
 · simp only[Nj,NM,Option.map_eq_some_iff] at h
   obtain⟨p,hp,rfl⟩:=h
   have e1:=List.find?_some hp
   simp at e1;subst e1
   obtain⟨F',fn,hh,c,k1,k2,k3,k4,k5,k6⟩:=jz.mem h1 p (List.mem_of_find?_eq_some hp)
   obtain rfl:=vj F F' _ hF k1
   exact⟨fn,hh,c,k2,k3,k4,k5,k6⟩
 · simp only[Nj,J0] at h
   split at h
   · rename_i p hp
     have e1:=List.find?_some hp
     simp at e1;subst e1
     obtain⟨F',k1,k2⟩:=o6.mem h2 p (List.mem_of_find?_eq_some hp)
     obtain rfl:=vj F F' _ hF k1
     exact k2 as res h
   · simp at h
 · simp only[Nj,Fc] at h
   split at h
   · rename_i p hp
     have e1:=List.find?_some hp
     simp at e1;subst e1
     obtain⟨F',k1,k2⟩:=lH.mem h4 p (List.mem_of_find?_eq_some hp)
     obtain rfl:=vj F F' _ hF k1
     exact k2 caps xs h
   · simp at h
 · simp only[Nj,Cn,Option.map_eq_some_iff] at h
   obtain⟨p,hp,rfl⟩:=h
   have e1:=List.find?_some hp
   simp at e1;subst e1
   obtain⟨F',k1,k2⟩:=rK.mem h3 p (List.mem_of_find?_eq_some hp)
   obtain rfl:=vj F F' _ hF k1
   exact k2 C hC as res hr
theorem Ao {μ μ':Mu} (h:Le μ μ') (eh: ∀b,¬μ.own b):Below μ.w.heap.size μ.w μ'.w:=
 ⟨h.os,h.tape,h.output,h.size,fun k hk=> (h.bZ k hk (eh k)).1⟩
theorem Er {X:TrEnv} {E:Env} (hE:ve X E) {F g:Nat} (hF:X.gq F=some g) {fn:Func} (tk:X.P.funcs[F]? =some fn) (sC: (fn.name== "runtime.NumGoroutine")=false) {cd:Code} (kC:fn.body=some cd)
   {args:List V} {b:Bool} (oU:Ev E g args ⟨.bool b,[]⟩) (hp:V.aq args=true) {w:World} {vals:List Value} (hv: ∀φ,aj (free X) (still w φ) args vals):
   Calls X.P F vals.toArray w fun e w'=>e= .returned (.bool b)∧Below w.heap.size w w'∧ ∀a,a.block<w.heap.size→w'.frozen? a=w.frozen? a:=by
 obtain⟨n,hn⟩:=oU
 have hs:cH X F args ⟨.bool b,[]⟩:=vf hE n g F args _ hF hn
 have hO: (enter args).O=fun _=>bB:=qG hp
 have hT: ∀ (t:Nat) (a:V),args[t]? =some a→(enter args).T t=a:=fun t a ha=>by rw[fD hp];simp[List.getD,ha]
 have yO:=hv (fun _=> ⟨0,0,0⟩)
 have hU:=hs (fun _=>False) (0,0) w (fun _=> ⟨0,0,0⟩) vals yO.length.symm (fun t v' yc=>by
   have hl:t<args.length:=by rw[yO.length];exact(List.getElem?_eq_some_iff.1 yc).1
   obtain⟨u,hu,bQ⟩:=yO.get (List.getElem?_eq_getElem hl)
   rw[yc] at hu;injection hu with hu;subst hu
   rw[hT t _ (List.getElem?_eq_getElem hl),hO];exact bQ) (by
   rw[hO]
   exact⟨fun r es h=>by simp[bB] at h,fun r1 r2 _ h=>by simp[bB] at h,fun r h=>by simp[bB] at h,fun b h=>h.elim⟩)
 have X2: (callFunc F vals.toArray).run X.P w= .ok (.enter F vals.toArray) w:=by
   simp[callFunc,Sem.run_bind,program,Sem.run,tk,kC]
   simpa using sC
 rw[X2] at hU
 simp only[yp] at hU
 refine Calls.mono hU fun e w' he=> ?_
 cases e with
 | panicked c=>exact he.elim
 | outgrown=>exact he.elim
 | returned val=>
   obtain⟨φ',T',O',v0,refs,k1,k2,k3,k4,k5,k6⟩:=he
   have eh: ∀b,¬ (Mu.mk w (fun _=> ⟨0,0,0⟩) (enter args).O).own b:=fun b=>by rw[hO];rintro⟨r,h,_⟩;simp[bB] at h
   refine⟨?_,Ao k1 eh,k1.frozen⟩
   · have:=(k4.XW k2 k3).pure rfl
     simp only[ak] at this
     rw[this]
end Go.AM
namespace Go.AM
open Ieee
theorem o7 {n k:Nat} (h:n< 2 ^ k) (h0:n≠0):n.log2<k:=(Nat.log2_lt h0).2 h
theorem B3 {mag:Nat}:Toward.even.cut false (mag<<< (52 - mag.log2)) (mag.log2 - 52)≤9007199254740992:=by
 have h1:mag< 2 ^ (mag.log2+1):=Nat.lt_log2_self
 have key:mag<<< (52 - mag.log2) / (1 <<< min (mag.log2 - 52) ((mag<<< (52 - mag.log2)).log2+2)) < 9007199254740992:=by
  by_cases he:mag.log2≤52
  · have e2:mag.log2 - 52=0:=by omega
    rw[e2,Nat.zero_min]
    rw[Nat.shiftLeft_eq,Nat.shiftLeft_eq,Nat.pow_zero,Nat.mul_one,Nat.div_one]
    calc mag*2 ^ (52 - mag.log2) < 2 ^ (mag.log2+1)*2 ^ (52 - mag.log2):=Nat.mul_lt_mul_of_pos_right h1 (Nat.two_pow_pos _)
     _=2 ^ 53:=by rw[←Nat.pow_add];congr 1;omega
     _=9007199254740992:=by decide
  · have e1:52 - mag.log2=0:=by omega
    rw[e1]
    simp only[Nat.shiftLeft_zero]
    rw[Nat.min_eq_left (by omega)]
    simp only[Nat.shiftLeft_eq,Nat.one_mul]
    refine Nat.div_lt_of_lt_mul ?_
    calc mag< 2 ^ (mag.log2+1):=h1
     _=2 ^ (mag.log2 - 52)*2 ^ 53:=by rw[←Nat.pow_add];congr 1;omega
     _=2 ^ (mag.log2 - 52)*9007199254740992:=by congr 1
 unfold Toward.cut
 simp only
 generalize mag<<< (52 - mag.log2) / (1 <<< min (mag.log2 - 52) ((mag<<< (52 - mag.log2)).log2+2))=low at key ⊢
 have hb: ∀b:Bool,low+b.toNat≤9007199254740992:=fun b=>by have:=Bool.toNat_le b;omega
 exact hb _
theorem oA {mag:Nat} {place:Int} (h0:mag≠0) (h1: -1000≤place+mag.log2) (h2:place+mag.log2≤200):
  ∃w:Nat,double.nearest false mag place=w∧w≤4503599627370496*((place+mag.log2+1022).toNat+2):=by
 refine⟨_,rfl,?_⟩
 unfold Format.nearest
 rw[if_neg h0]
 have e1:double.leastPlace= -1074:=by simp[Format.leastPlace,double]
 have e2:double.fractionBits=52:=rfl
 have e3:double.binade=4503599627370496:=by simp[Format.binade,double]
 have e4:max (place+(mag.log2:Int) - (double.fractionBits:Nat)) double.leastPlace=place+mag.log2 - 52:=by
  rw[e1,e2];omega
 rw[e4]
 simp only[Format.word,e1,e3]
 have a1: (place - (place+(mag.log2:Int) - 52)).toNat=52 - mag.log2:=by omega
 have a2: (place+(mag.log2:Int) - 52 - place).toNat=mag.log2 - 52:=by omega
 have a3: (place+(mag.log2:Int) - 52 - -1074).toNat=(place+mag.log2+1022).toNat:=by congr 1;omega
 rw[a1,a2,a3]
 have hk:=B3 (mag:=mag)
 simp only[Bool.false_eq_true,if_false]
 refine Nat.le_trans (Nat.min_le_left _ _) ?_
 rw[Nat.mul_add,Nat.mul_comm]
 exact Nat.add_le_add_left hk _
theorem lp:double.leastPlace= -1074:=by simp[Format.leastPlace,double]
theorem bi:double.binade=4503599627370496:=by simp[Format.binade,double]
theorem sw:double.signWeight=9223372036854775808:=by simp[Format.signWeight,double]
theorem ir:double.infRung=9218868437227405312:=by simp[Format.infRung,Format.binade,double]
theorem vk {w T:Nat} (hT:w≤4503599627370496*(T+2)) (hT2:T≤1290): ∃m p,double.read w= .number false m p∧m< 9007199254740992∧ -1074≤p∧p≤ -1072+(T:Int):=by
 have hq:w / 4503599627370496≤T+2:=Nat.div_le_of_le_mul hT
 have h:w≤4503599627370496*1292:=Nat.le_trans hT (Nat.mul_le_mul_left _ (by omega))
 have bp:w< 9223372036854775808:=Nat.lt_of_le_of_lt h (by decide)
 have kl:w< 9218868437227405312:=Nat.lt_of_le_of_lt h (by decide)
 have h1:w / 9223372036854775808=0:=Nat.div_eq_of_lt bp
 have h2:w % 9223372036854775808=w:=Nat.mod_eq_of_lt bp
 have y0: (w / 9223372036854775808 % 2==1)=false:=by rw[h1];rfl
 unfold Format.read
 simp only[lp,bi,sw,ir,h2,y0]
 by_cases hb:w< 4503599627370496
 · simp only[hb,if_true]
   exact⟨w,-1074,rfl,Nat.lt_trans hb (by decide),by decide,by clear h1 h2 y0 hb h bp kl hq hT;omega⟩
 · have hc:=kl
   simp only[hb,hc,if_true,if_false]
   refine⟨4503599627370496+w % 4503599627370496,-1074+((w / 4503599627370496 - 1:Nat):Int),rfl,?_,?_,?_⟩
   · have h9:=Nat.mod_lt w (show 0 < 4503599627370496 by decide)
     clear h1 h2 y0 hc hb h bp kl hT hq
     generalize w % 4503599627370496=r at h9 ⊢
     omega
   · clear h1 h2 y0 hc hb h bp kl hT hq
     generalize w / 4503599627370496 - 1=q
     omega
   · clear h1 h2 y0 hc hb h bp kl hT
     generalize w / 4503599627370496=q at hq ⊢
     omega
theorem mX (n:Nat): ∀ (todo root:Nat),root*root≤n→Datum.rootFrom n todo root*Datum.rootFrom n todo root≤n
 | 0,root,h=>h
 | todo+1,root,h=>by
   unfold Datum.rootFrom
   by_cases h': (root+1 <<< todo)*(root+1 <<< todo)≤n
   · simp only[h',if_true];exact mX n todo _ h'
   · simp only[h',if_false];exact mX n todo _ h
theorem Fq { n:Int} (h0:0 <n) (h1:n≤9223372036854775807):
   ∃r m,FloatKind.f64.format.sqrt (FloatKind.f64.nearest n)=some r∧(FloatKind.f64.decode r).toInt .zero=some m∧0≤m∧m≤9223372036854775807:=by
 have KS:n.natAbs≠0:=by omega
 have aa1:n.natAbs.log2< 63:=o7 (by
   have: (2:Nat) ^ 63=9223372036854775808:=by decide
   omega) KS
 have eN:FloatKind.f64.nearest n=double.nearest false n.natAbs 0:=by
   have:decide (n< 0)=false:=by simp;omega
   simp only[FloatKind.nearest,FloatKind.encode,FloatKind.format,Format.write,this]
 obtain⟨w,hw,MN⟩:=oA (mag:=n.natAbs) (place:=0) KS (by omega) (by omega)
 obtain⟨m,p,hr,hm,zK,hp⟩:=vk MN (by clear MN;omega)
 clear MN
 rw[eN,hw]
 have hpb:p≤13:=by clear hm;omega
 have fin: ∀ (mag:Nat) (place:Int),mag≠0→ -1000≤place+mag.log2→place+mag.log2≤59→
    ∃r k,double.write (.number false mag place)=r∧(double.read r).toInt .zero=some k∧0≤k∧k≤9223372036854775807:=by
   intro mag place g0 g1 g2
   obtain⟨w2,AQ,MU⟩:=oA (mag:=mag) (place:=place) g0 g1 (by omega)
   obtain⟨m3,p3,XR,hm3,hp3,aa2⟩:=vk MU (by clear MU;omega)
   clear MU
   have hp9:p3≤9:=by omega
   refine⟨w2,_,AQ,by rw[XR];rfl,?_⟩
   have aa3:Toward.zero.cut false (m3<<< p3.toNat) (-p3).toNat≤m3<<< p3.toNat:=by
    unfold Toward.cut
    simp only[Bool.toNat_false,Nat.add_zero]
    exact Nat.div_le_self _ _
   have hsh:m3<<< p3.toNat≤m3*512:=by
    rw[Nat.shiftLeft_eq]
    refine Nat.mul_le_mul_left _ ?_
    calc 2 ^ p3.toNat≤2 ^ 9:=Nat.pow_le_pow_right (by omega) (by omega)
      _=512:=by decide
   simp only[signed,Bool.false_eq_true,if_false,Nat.shiftLeft_zero]
   omega
 show ∃r k,(((double.read w).root (double.fractionBits+2)).map double.write)=some r∧(double.read r).toInt .zero=some k∧0≤k∧k≤9223372036854775807
 rw[hr]
 simp only[Datum.root]
 by_cases Du:m=0
 · subst Du
   rw[if_pos rfl]
   exact⟨0,0,by simp[Format.write,Format.nearest,Format.word],by decide,by decide,by decide⟩
 · rw[if_neg Du]
   simp only[Bool.false_eq_true,if_false]
   have e2:double.fractionBits=52:=rfl
   rw[e2]
   have GM:m.log2< 53:=o7 (by
    have: (2:Nat) ^ 53=9007199254740992:=by decide
    omega) Du
   generalize aaX:2*(52+2) - m.log2+((p - (2*(52+2) - m.log2:Nat)) % 2).toNat=more
   have hmb:56≤more∧more≤109:=by omega
   generalize hwh:Datum.rootFrom (m<<< more) ((m<<< more).log2 / 2+1) 0=whole
   have hle:whole*whole≤m<<< more:=by rw[←hwh];exact mX _ _ _ (by simp)
   have hbound:whole< 2 ^ 81:=by
    rw[Nat.shiftLeft_eq] at hle
    have h2:m*2 ^ more< 2 ^ 162:=by
      calc m*2 ^ more< 2 ^ 53*2 ^ more:=Nat.mul_lt_mul_of_pos_right (by
            have: (2:Nat) ^ 53=9007199254740992:=by decide
            omega) (Nat.two_pow_pos _)
       _=2 ^ (53+more):=by rw[←Nat.pow_add]
       _≤2 ^ 162:=Nat.pow_le_pow_right (by omega) (by omega)
    rcases Nat.lt_or_ge whole (2 ^ 81) with h| h
    · exact h
    · have:2 ^ 81*2 ^ 81≤whole*whole:=Nat.mul_le_mul h h
      have e: (2:Nat) ^ 81*2 ^ 81=2 ^ 162:=by rw[←Nat.pow_add]
      omega
   have xz:m<<< more≠0:=by
    rw[Nat.shiftLeft_eq]
    exact Nat.mul_ne_zero Du (by have:=Nat.two_pow_pos more;omega)
   generalize MV:2*whole+(whole*whole !=m<<< more).toNat=JC
   have Lc:JC≠0:=by
    intro h
    rw[h] at MV
    have hw0:whole=0:=by omega
    subst hw0
    have: (0*0 !=m<<< more)=true:=by simp;exact fun h=>xz h.symm
    rw[this] at MV
    simp at MV
   have Yc:JC< 2 ^ 83:=by
    have hb: (whole*whole !=m<<< more).toNat≤1:=Bool.toNat_le _
    have e: (2:Nat) ^ 83=4*2 ^ 81:=by decide
    omega
   have Bg:JC.log2< 83:=o7 Yc Lc
   obtain⟨r,k,g1,g2,g3,g4⟩:=fin JC ((p - more) / 2 - 1) Lc (by omega) (by omega)
   refine⟨r,k,?_,g2,g3,g4⟩
   simp only[Option.map_some]
   exact congrArg some g1
end Go.AM
