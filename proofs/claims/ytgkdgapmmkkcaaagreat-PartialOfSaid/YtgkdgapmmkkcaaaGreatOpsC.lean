/-
  Texts of the proof, joined by program: AmCall2, AmCall3, AmCall4, AmCall5, AmCall6, AmCall7, AmCall8, AmCall9, AmTag, AmSound, AmExt, AmGlue, AmTrod, AmSeat, AmSqrt. Own work.
-/
import Derived.Test.YtgkdgapmmkkcaaaGreatOpsB
import Derived.Test.YtgkdgapmmkkcaaaGreatBase
import Derived.Laws.Externs
import Derived.Laws.Cover3
import GoSem.Extern.MathSqrt
import Derived.ProofKit
import Derived.ChangeSame
import Derived.ChangeArms
import Derived.OpenShut
import Derived.Deep.Slices
import Derived.Carry
set_option linter.unusedSimpArgs false
set_option linter.unusedVariables false
namespace Go.AM
open Go Go.RowKit
def ud (P:Program) (r:Result Next) (R:Value→World→Prop):Prop:=
 match r with
 | .ok (.value v) w'=>R v w'
 | .ok (.enter f args) w'=>Calls P f args w' fun| .returned v,Ac=>R v Ac| _,_=>False
 | _=>False
theorem ud.upon {P:Program} {r:Result Next} {R:Value→World→Prop} (h:ud P r R) {o:Oper} {a:Go.Act} {next:Go.Act→World→Prop} {Q:Go.Exit→Go.Act→World→Prop}
   (hn: ∀v w,R v w→next (a.put o.dst v) w):o.upon P a next Q r:=by
 unfold ud at h
 split at h
 · exact hn _ _ h
 · rw[Oper.upon_enter]
   refine Calls.mono h fun e w' he=> ?_
   cases e with
   | returned v=>exact hn _ _ he
   | panicked c=>exact he.elim
   | outgrown=>exact he.elim
 · exact h.elim
def V.gX:V→Bool
 | .own .. =>true
 | c=>c.aI
theorem pF {c:V} (h:c.aI=true):c.gX=true:=by cases c<;>simp_all[V.aI,V.gX]
inductive dd (n:Nat) (σ:St):V→V→List Nat→Prop
 | one {v0 v:V} {rs:List Nat} (h:cp n σ v0=some (v,rs)):dd n σ v0 v rs
 | many {vs vs':List V} {rs:List Nat} (h:cb n σ vs=some (vs',rs)):dd n σ (.tuple vs) (.tuple vs') rs
def cu (X:TrEnv) (F:FuncId) (args:List V) (res:fh):Prop:=
 ∀ (B:Nat→Prop) (K:Nat×Nat) (w:World) (φ0:Nat→Row) (vals:List Value),vals.length=args.length→
  (∀t v,vals[t]? =some v→ak ⟨X,B,K⟩ ⟨w,φ0,(enter args).O⟩ ((enter args).T t) v)→bj ⟨X,B,K⟩ ⟨w,φ0,(enter args).O⟩→
  ud X.P ((callFunc F vals.toArray).run X.P w) fun val w'=> ∃φ' T' O' v0 refs,Le ⟨w,φ0,(enter args).O⟩ ⟨w',φ',O'⟩∧bj ⟨X,B,K⟩ ⟨w',φ',O'⟩∧
     ak ⟨X,B,K⟩ ⟨w',φ',O'⟩ v0 val∧dd args.length ⟨T',O'⟩ v0 res.val refs∧distinct refs=true∧bP O' 0 args=some res.outs
inductive Li (Y:Ctx) (μ:Mu) (n:Nat):V→List Nat→Value→Prop
 | pure {c:V} {val:Value} (hp:c.aC=true) (h:ak Y μ c val):Li Y μ n c [] val
 | sl {r g off len:Nat} {es:List V} {val:Value} (hr:r<n) (bJ: (μ.O r).es=some es) (hg: (μ.O r).gen=g) (hl:off+len≤es.length) (h:ak Y μ (.sl r g off len) val):Li Y μ n (.sl r g off len) [r] val
 | own {r g off len:Nat} {es:List V} {val:Value} (hr:n≤r) (bJ: (μ.O r).es=some es) (fY: (μ.O r).fz=false) (hg: (μ.O r).gen=g) (hl:off+len≤es.length) (hp:V.aq (aH es off len)=true)
    (h:ak Y μ (.sl r g off len) val):Li Y μ n (.own (μ.O r).sz (aH es off len)) [r] val
inductive ue (Y:Ctx) (μ:Mu) (n:Nat):List V→List Nat→List Value→Prop
 | nil:ue Y μ n [] [] []
 | cons {c:V} {rs rs':List Nat} {val:Value} {cs:List V} {vals:List Value} (h:Li Y μ n c rs val) (hs:ue Y μ n cs rs' vals):ue Y μ n (c::cs) (rs++rs') (val::vals)
section
variable {Y:Ctx} {μ:Mu} {n:Nat}
theorem ue.length {cs:List V} {rs:List Nat} {vals:List Value} (h:ue Y μ n cs rs vals):cs.length=vals.length:=by
 induction h with
 | nil=>rfl
 | cons _ _ ih=>simp[ih]
theorem zd (ho:bj Y μ) {r g off len:Nat} {es:List V} {val:Value} (bJ: (μ.O r).es=some es) (fY: (μ.O r).fz=true) (hg: (μ.O r).gen=g) (hl:off+len≤es.length)
   (hp:V.aq (aH es off len)=true) (h:ak Y μ (.sl r g off len) val):ak Y μ (.lit (μ.O r).sz (aH es off len)) val:=by
 simp only[ak] at h ⊢
 obtain⟨a,cap,rfl,hle,pR,cB⟩:=h
 obtain⟨a0,a1,a2⟩:=cB hg
 obtain⟨q1,q2,q3,q4⟩:=ho.row r es bJ a0
 have mZ: (aH es off len).length=len:=by simp[aH];omega
 have kb: (aH es off len).all V.cX=true:=by
   simp only[List.all_eq_true] at q3 ⊢
   exact fun x hx=> (b7 (q3 x (List.mem_of_mem_drop (List.mem_of_mem_take hx)))).1
 by_cases yd:len=0
 · exact⟨hp,kb,a,cap,[],by rw[mZ],by omega,by simp[aH,yd,aj],.inl (by simpa using mZ.trans yd)⟩
 · rcases q4 with q4| ⟨cc,TT,vs,p1,p2,p3,p4⟩
   · omega
   · refine⟨hp,kb,a,cap,(vs.drop off).take len,by rw[mZ],by omega,aj.take _ (aj.drop _ p3),.inr ⟨_,_,a2.resolve_left (by omega),?_,(Array.getElem?_eq_some_iff.1 p1).1,(p4.drop off).take len⟩⟩
     rintro(⟨r',k1,k2,k3,k4⟩ | hb)
     · by_cases e:r'=r
       · subst e;rw[fY] at k2;simp at k2
       · exact ho.inj r' r e k1 (by simp[bJ]) k3 (by omega) k4
     · exact ho.qU r (by simp[bJ]) (by omega) hb
theorem kl (ho:bj Y μ) {T:Nat→V} {c c':V} {rs:List Nat} {val:Value} (h:ak Y μ c val) (he:bH n ⟨T,μ.O⟩ c=some (c',rs)):Li Y μ n c' rs val:=by
 unfold bH at he
 split at he
 · rename_i r g off len
   simp only at he
   split at he
   · rename_i es bJ
     split at he
     · rename_i hc
       obtain⟨c1,c2,c3,c4⟩:=hc
       split at he
       · rename_i hr
         simp only[Option.some.injEq,Prod.mk.injEq] at he
         obtain⟨rfl,rfl⟩:=he
         exact .sl hr bJ c1 c2 h
       · rename_i hr
         split at he
         · rename_i fY
           simp only[Option.some.injEq,Prod.mk.injEq] at he
           obtain⟨rfl,rfl⟩:=he
           exact .pure rfl (zd ho bJ fY c1 c2 c4 h)
         · rename_i fY
           simp only[Option.some.injEq,Prod.mk.injEq] at he
           obtain⟨rfl,rfl⟩:=he
           exact .own (by omega) bJ (by simpa using fY) c1 c2 c4 h
     · simp at he
   · simp at he
 · split at he
   · rename_i hp
     simp only[Option.some.injEq,Prod.mk.injEq] at he
     obtain⟨rfl,rfl⟩:=he
     exact .pure hp h
   · simp at he
theorem gg (ho:bj Y μ) {T:Nat→V}: ∀ {cs cI:List V} {rs:List Nat} {vals:List Value},aj Y μ cs vals→bx n ⟨T,μ.O⟩ cs=some (cI,rs)→ue Y μ n cI rs vals
 | [],cI,rs,[],_,he=>by simp[bx] at he;obtain⟨rfl,rfl⟩:=he;exact .nil
 | [],_,_,_::_,h,_=>by simp[aj] at h
 | _::_,_,_,[],h,_=>by simp[aj] at h
 | c::cs,cI,rs,v::vs,h,he=>by
   simp only[aj] at h
   simp only[bx] at he
   split at he
   · rename_i c1 r1 Mp Lj h1 h2
     simp only[Option.some.injEq,Prod.mk.injEq] at he
     obtain⟨rfl,rfl⟩:=he
     exact .cons (kl ho h.1 h1) (gg ho h.2 h2)
   · simp at he
inductive BC (Y:Ctx) (μ:Mu) (n:Nat):V→List Nat→Value→Prop
 | cell {c:V} {rs:List Nat} {val:Value} (h:Li Y μ n c rs val):BC Y μ n c rs val
 | agg {cs:List V} {rs:List Nat} {vals:Array Value} (hc:cs.all V.gX=true) (h:ue Y μ n cs rs vals.toList):BC Y μ n (.agg cs) rs (.agg vals)
inductive pG (Y:Ctx) (μ:Mu) (n:Nat):List V→List Nat→List Value→Prop
 | nil:pG Y μ n [] [] []
 | cons {c:V} {rs rs':List Nat} {val:Value} {cs:List V} {vals:List Value} (h:BC Y μ n c rs val) (hs:pG Y μ n cs rs' vals):pG Y μ n (c::cs) (rs++rs') (val::vals)
theorem pH {T:Nat→V} {O:Nat→Obj} {c c':V} {rs:List Nat} (he:bH n ⟨T,O⟩ c=some (c',rs)) (hc:c.aI=true):V.gX c'=true:=by
 unfold bH at he
 split at he
 · simp only at he
   split at he
   · split at he
     · split at he
       · simp only[Option.some.injEq,Prod.mk.injEq] at he
         obtain⟨rfl,rfl⟩:=he;rfl
       · split at he
         · simp only[Option.some.injEq,Prod.mk.injEq] at he
           obtain⟨rfl,rfl⟩:=he;rfl
         · simp only[Option.some.injEq,Prod.mk.injEq] at he
           obtain⟨rfl,rfl⟩:=he;rfl
     · simp at he
   · simp at he
 · split at he
   · simp only[Option.some.injEq,Prod.mk.injEq] at he
     obtain⟨rfl,rfl⟩:=he
     exact pF hc
   · simp at he
theorem jo {T:Nat→V} {O:Nat→Obj}: ∀ {cs cI:List V} {rs:List Nat},bx n ⟨T,O⟩ cs=some (cI,rs)→cs.all V.aI=true→
   cI.all V.gX=true
 | [],cI,rs,he,_=>by simp[bx] at he;obtain⟨rfl,rfl⟩:=he;rfl
 | c::cs,cI,rs,he,hc=>by
   simp only[List.all_cons,Bool.and_eq_true] at hc
   simp only[bx] at he
   split at he
   · rename_i c1 r1 Mp Lj h1 h2
     simp only[Option.some.injEq,Prod.mk.injEq] at he
     obtain⟨rfl,rfl⟩:=he
     have i1:=pH h1 hc.1
     have i2:=jo h2 hc.2
     rw[List.all_cons,i2,Bool.and_true]
     exact i1
   · simp at he
theorem ue.cr {cs:List V} {rs:List Nat} {vals:List Value} (h:ue Y μ n cs rs vals) (hp:V.aq cs=true):aj Y μ cs vals∧rs=[]:=by
 induction h with
 | nil=>simp[aj]
 | cons h hs ih=>
   simp only[V.aq,Bool.and_eq_true] at hp
   obtain⟨i1,i2⟩:=ih hp.2
   cases h with
   | pure yf hv=>simp only[aj];exact⟨⟨hv,i1⟩,by simpa using i2⟩
   | sl=>simp[V.aC] at hp
   | own=>simp[V.aC] at hp
theorem nN (ho:bj Y μ) {T:Nat→V} {v v':V} {rs:List Nat} {val:Value} (h:ak Y μ v val) (he:cp n ⟨T,μ.O⟩ v=some (v',rs)):BC Y μ n v' rs val:=by
 unfold cp at he
 split at he
 · rename_i hp
   simp only[Option.some.injEq,Prod.mk.injEq] at he
   obtain⟨rfl,rfl⟩:=he
   exact .cell (.pure hp h)
 · split at he
   · simp only[ak] at h
     obtain⟨h1,vs,rfl,h2⟩:=h
     split at he
     · rename_i cI rs' c7
       simp only[Option.some.injEq,Prod.mk.injEq] at he
       obtain⟨rfl,rfl⟩:=he
       exact .agg (jo c7 h1) (gg ho h2 c7)
     · simp at he
   · simp only[ak] at h
     obtain⟨F,cv,rfl,h1,h2⟩:=h
     split at he
     · rename_i cI rs' c7
       split at he
       · rename_i hp
         simp only[Option.some.injEq,Prod.mk.injEq] at he
         obtain⟨rfl,rfl⟩:=he
         obtain⟨k1,k2⟩:=(gg ho h2 c7).cr hp
         subst k2
         refine .cell (.pure (by simpa [V.aC] using hp) ?_)
         simp only[ak]
         exact⟨F,cv,rfl,h1,k1⟩
       · simp at he
     · simp at he
   · exact .cell (kl ho h he)
theorem mC (ho:bj Y μ) {T:Nat→V}: ∀ {cs cI:List V} {rs:List Nat} {vals:List Value},aj Y μ cs vals→cb n ⟨T,μ.O⟩ cs=some (cI,rs)→pG Y μ n cI rs vals
 | [],cI,rs,[],_,he=>by simp[cb] at he;obtain⟨rfl,rfl⟩:=he;exact .nil
 | [],_,_,_::_,h,_=>by simp[aj] at h
 | _::_,_,_,[],h,_=>by simp[aj] at h
 | c::cs,cI,rs,v::vs,h,he=>by
   simp only[aj] at h
   simp only[cb] at he
   split at he
   · rename_i c1 r1 Mp Lj h1 h2
     simp only[Option.some.injEq,Prod.mk.injEq] at he
     obtain⟨rfl,rfl⟩:=he
     exact .cons (nN ho h.1 h1) (mC ho h.2 h2)
   · simp at he
end
end Go.AM
namespace Go.AM
open Go Go.RowKit
def eL (φ:Nat→Row) (ws:List dH) (i:Nat):Row:=
 match ws with
 | []=> ⟨0,0,0⟩
 | w::ws=>if w.i=i then(match w.fresh with| none=>φ w.r| some _=> ⟨0,0,0⟩) else eL φ ws i
inductive rp (X:Ctx) (μ:Mu) (r0 i:Nat) (rs:List Nat) (ws:List dH):V→Value→Prop
 | plain {a:V} {v:Value} (hp:V.aC a=true) (hs:iz X μ rs a v):rp X μ r0 i rs ws a v
 | sl {r g off len:Nat} {es:List V} {v:Value} (hw: (⟨i,r,none⟩:dH) ∈ ws) (bJ: (μ.O r).es=some es) (fY: (μ.O r).fz=false) (cm: (μ.O r).gen=g) (lJ:V.aq es=true)
    (gl:off+len≤es.length) (hv:ak X μ (.sl r g off len) v):rp X μ r0 i rs ws (.msl (μ.O r).sz es off len) v
 | ptr {r g idx off:Nat} {es:List V} {v:Value} (hw: (⟨i,r,none⟩:dH) ∈ ws) (bJ: (μ.O r).es=some es) (fY: (μ.O r).fz=false) (cm: (μ.O r).gen=g) (lJ:V.aq es=true)
    (hv:ak X μ (.ptr r g idx off) v):rp X μ r0 i rs ws (.mptr (μ.O r).sz es idx off) v
 | fresh {sz:Nat} {v:Value} (hw: (⟨i,r0+i,some sz⟩:dH) ∈ ws) (cE:0 <sz) (hv: ∃a,v= .slice a 0 0):rp X μ r0 i rs ws (.msl sz [] 0 0) v
section
variable {X:Ctx} {μ:Mu} {r0:Nat}
theorem rp.more {i:Nat} {rs rs':List Nat} {ws tL:List dH} {a:V} {v:Value} (h:rp X μ r0 i rs ws a v) (h1: ∀r ∈ rs,r ∈ rs') (h2: ∀w ∈ ws,w ∈ tL):rp X μ r0 i rs' tL a v:=by
 cases h with
 | plain hp hs=>exact .plain hp (hs.more h1)
 | sl hw a b c d e f=>exact .sl (h2 _ hw) a b c d e f
 | ptr hw a b c d f=>exact .ptr (h2 _ hw) a b c d f
 | fresh hw a b=>exact .fresh (h2 _ hw) a b
theorem jz.at {i:Nat} {as:List V} {vs:List Value} {rs:List Nat} {ws:List dH} (h:jz X μ r0 i as vs rs ws):
   as.length=vs.length∧(∀w ∈ ws,i≤w.i)∧(∀t a,as[t]? =some a→ ∃v,vs[t]? =some v∧rp X μ r0 (i+t) rs ws a v):=by
 induction h with
 | nil i=>simp
 | @plain i a v rs rs' as vs ws hp hs h ih=>
   obtain⟨i1,i2,i3⟩:=ih
   refine⟨by simp[i1],fun w hw=>by have:=i2 w hw;omega,fun t b hb=> ?_⟩
   cases t with
   | zero=>simp at hb;subst hb;exact⟨v,by simp,.plain hp (hs.more (by simp+contextual))⟩
   | succ t=>
     obtain⟨v',k1,k2⟩:=i3 t b (by simpa using hb)
     refine⟨v',by simpa using k1,?_⟩
     have e:i+(t+1)=i+1+t:=by omega
     rw[e];exact k2.more (by simp+contextual) (fun w hw=>hw)
 | @sl i r g off len es v rs as vs ws bJ fY cm lJ gl hv h ih=>
   obtain⟨i1,i2,i3⟩:=ih
   refine⟨by simp[i1],fun w hw=> ?_,fun t b hb=> ?_⟩
   · rcases List.mem_cons.1 hw with rfl| hw
     · exact Nat.le_refl _
     · have:=i2 w hw;omega
   · cases t with
     | zero=>simp at hb;subst hb;exact⟨v,by simp,.sl (by simp) bJ fY cm lJ gl hv⟩
     | succ t=>
       obtain⟨v',k1,k2⟩:=i3 t b (by simpa using hb)
       refine⟨v',by simpa using k1,?_⟩
       have e:i+(t+1)=i+1+t:=by omega
       rw[e];exact k2.more (fun r hr=>hr) (fun w hw=>by simp[hw])
 | @ptr i r g idx off es v rs as vs ws bJ fY cm lJ hv h ih=>
   obtain⟨i1,i2,i3⟩:=ih
   refine⟨by simp[i1],fun w hw=> ?_,fun t b hb=> ?_⟩
   · rcases List.mem_cons.1 hw with rfl| hw
     · exact Nat.le_refl _
     · have:=i2 w hw;omega
   · cases t with
     | zero=>simp at hb;subst hb;exact⟨v,by simp,.ptr (by simp) bJ fY cm lJ hv⟩
     | succ t=>
       obtain⟨v',k1,k2⟩:=i3 t b (by simpa using hb)
       refine⟨v',by simpa using k1,?_⟩
       have e:i+(t+1)=i+1+t:=by omega
       rw[e];exact k2.more (fun r hr=>hr) (fun w hw=>by simp[hw])
 | @fresh i sz v rs as vs ws cE hv h ih=>
   obtain⟨i1,i2,i3⟩:=ih
   refine⟨by simp[i1],fun w hw=> ?_,fun t b hb=> ?_⟩
   · rcases List.mem_cons.1 hw with rfl| hw
     · exact Nat.le_refl _
     · have:=i2 w hw;omega
   · cases t with
     | zero=>simp at hb;subst hb;exact⟨v,by simp,.fresh (by simp) cE hv⟩
     | succ t=>
       obtain⟨v',k1,k2⟩:=i3 t b (by simpa using hb)
       refine⟨v',by simpa using k1,?_⟩
       have e:i+(t+1)=i+1+t:=by omega
       rw[e];exact k2.more (fun r hr=>hr) (fun w hw=>by simp[hw])
inductive B4:Nat→List dH→Prop
 | nil (i:Nat):B4 i []
 | cons {i:Nat} {w:dH} {ws:List dH} (h:i≤w.i) (hs:B4 (w.i+1) ws):B4 i (w::ws)
theorem B4.le {i j:Nat} {ws:List dH} (h:B4 j ws) (UO:i≤j):B4 i ws:=by
 cases h with
 | nil=>exact .nil _
 | cons h hs=>exact .cons (by omega) hs
theorem B4.mem {i:Nat} {ws:List dH} (h:B4 i ws): ∀w ∈ ws,i≤w.i:=by
 induction h with
 | nil=>simp
 | cons h hs ih=>
   intro w hw
   rcases List.mem_cons.1 hw with rfl| hw
   · exact h
   · have:=ih w hw;omega
theorem jz.inc {i:Nat} {as:List V} {vs:List Value} {rs:List Nat} {ws:List dH} (h:jz X μ r0 i as vs rs ws):B4 i ws:=by
 induction h with
 | nil i=>exact .nil i
 | plain hp hs h ih=>exact ih.le (by omega)
 | sl _ _ _ _ _ _ h ih=>exact .cons (by simp) ih
 | ptr _ _ _ _ _ h ih=>exact .cons (by simp) ih
 | fresh _ _ h ih=>exact .cons (by simp) ih
theorem gH {φ:Nat→Row} {i:Nat} {ws:List dH} (h:B4 i ws): ∀w ∈ ws,eL φ ws w.i=(match w.fresh with| none=>φ w.r| some _=> ⟨0,0,0⟩):=by
 induction h with
 | nil=>simp
 | @cons i w ws h hs ih=>
   intro w' hw
   rcases List.mem_cons.1 hw with rfl| hw
   · simp[eL]
   · have:=hs.mem w' hw
     rw[eL,if_neg (by omega)]
     exact ih w' hw
theorem B4.uniq {i:Nat} {ws:List dH} (h:B4 i ws): ∀w ∈ ws,∀w' ∈ ws,w.i=w'.i→w=w':=by
 induction h with
 | nil=>simp
 | @cons i w ws h hs ih=>
   intro a ha b hb e
   rcases List.mem_cons.1 ha with ha| ha<;>rcases List.mem_cons.1 hb with hb| hb
   · rw[ha,hb]
   · have:=hs.mem b hb;subst ha;omega
   · have:=hs.mem a ha;subst hb;omega
   · exact ih a ha b hb e
theorem nO: ∀ {ws:List dH},distinct (ws.map (·.r))=true→ ∀w ∈ ws,∀w' ∈ ws,w.r=w'.r→w=w'
 | [],_,_,h,_,_,_=>by simp at h
 | w::ws,hd,a,ha,b,hb,e=>by
   simp only[List.map_cons,distinct,Bool.and_eq_true,Bool.not_eq_true',List.contains_eq_mem,decide_eq_false_iff_not] at hd
   rcases List.mem_cons.1 ha with ha| ha<;>rcases List.mem_cons.1 hb with hb| hb
   · rw[ha,hb]
   · exact absurd (List.mem_map.2 ⟨b,hb,by rw[←e,ha]⟩) hd.1
   · exact absurd (List.mem_map.2 ⟨a,ha,by rw[e,hb]⟩) hd.1
   · exact nO hd.2 a ha b hb e
def dF (X:Ctx) (μ:Mu) (rs:List Nat) (ws:List dH) (b:Nat):Prop:=
 X.GI b∨ ∃r,r ∉ rs∧r ∉ ws.map (·.r)∧(μ.O r).es.isSome=true∧(μ.O r).fz=false∧(μ.φ r).cap≠0∧(μ.φ r).cD=b
theorem iP {as:List V} {vals:List Value} {rs:List Nat} {ws:List dH} (hp:jz X μ r0 0 as vals rs ws) (j:Nat):
   (enter as).O j=bD∨
   (∃r es,(⟨j,r,none⟩:dH) ∈ ws∧(μ.O r).es=some es∧(μ.O r).fz=false∧V.aq es=true∧((enter as).O j).gen=0∧((enter as).O j).sz=(μ.O r).sz∧((enter as).O j).fz=false∧((enter as).O j).es=some es∧eL μ.φ ws j=μ.φ r)∨
   (∃sz,(⟨j,r0+j,some sz⟩:dH) ∈ ws∧0 <sz∧((enter as).O j).gen=0∧((enter as).O j).sz=sz∧((enter as).O j).fz=false∧((enter as).O j).es=some []∧eL μ.φ ws j=⟨0,0,0⟩):=by
 obtain⟨hl,-,A4⟩:=hp.at
 have hi:=hp.inc
 cases ha:as[j]? with
 | none=>left;simp[enter,ha]
 | some a=>
   obtain⟨v,hv,hA⟩:=A4 j a ha
   simp only[Nat.zero_add] at hA
   cases hA with
   | plain lJ hs=>
     left
     cases a<;>simp[V.aC] at lJ<;>simp[enter,ha]
   | @sl r g off len es v hw bJ fY cm lJ gl yg=>
     right;left
     exact⟨r,es,hw,bJ,fY,lJ,by simp[enter,ha],by simp[enter,ha],by simp[enter,ha],by simp[enter,ha],by have:=gH (φ:=μ.φ) hi _ hw;simpa using this⟩
   | @ptr r g idx off es v hw bJ fY cm lJ yg=>
     right;left
     exact⟨r,es,hw,bJ,fY,lJ,by simp[enter,ha],by simp[enter,ha],by simp[enter,ha],by simp[enter,ha],by have:=gH (φ:=μ.φ) hi _ hw;simpa using this⟩
   | @fresh sz v hw cE yg=>
     right;right
     exact⟨sz,hw,cE,by simp[enter,ha],by simp[enter,ha],by simp[enter,ha],by simp[enter,ha],by have:=gH (φ:=μ.φ) hi _ hw;simpa using this⟩
theorem u6 {as:List V} {vals:List Value} {rs:List Nat} {ws:List dH} (hp:jz X μ r0 0 as vals rs ws) {b:Nat} (h: (⟨μ.w,eL μ.φ ws,(enter as).O⟩:Mu).own b):
   ∃i r,(⟨i,r,none⟩:dH) ∈ ws∧(μ.O r).es.isSome=true∧(μ.O r).fz=false∧(μ.φ r).cap≠0∧(μ.φ r).cD=b:=by
 obtain⟨j,h1,h2,h3,h4⟩:=h
 simp only at h1 h2 h3 h4
 rcases iP hp j with h| ⟨r,es,k1,k2,k3,k4,k5,k6,k7,k8,k9⟩ | ⟨sz,k1,k2,k3,k4,k5,k6,k7⟩
 · rw[h] at h1;simp[bD] at h1
 · rw[k9] at h3 h4
   exact⟨j,r,k1,by simp[k2],k3,h3,h4⟩
 · rw[k7] at h3;simp at h3
theorem BD {as:List V} {vals:List Value} {rs:List Nat} {ws:List dH} (ho:bj X μ) (hp:jz X μ r0 0 as vals rs ws) (G2:apart rs (ws.map (·.r))=true) {b:Nat}
   (h:Own ⟨X.toTrEnv,dF X μ rs ws,X.tok⟩ ⟨μ.w,eL μ.φ ws,(enter as).O⟩ b):
   Own X μ b∧ ∀r ∈ rs,(μ.O r).es.isSome=true→(μ.φ r).cap≠0→b≠(μ.φ r).cD:=by
 rcases h with h| h
 · obtain⟨i,r,h1,h2,h3,h4,h5⟩:=u6 hp h
   refine⟨.inl ⟨r,h2,h3,h4,h5⟩,fun r' ql k1 k2 e=> ?_⟩
   have c9:r≠r':=by
     rintro rfl
     have:=List.all_eq_true.1 G2 r (List.mem_map.2 ⟨_,h1,rfl⟩)
     simp[ql] at this
   exact ho.inj r r' c9 h2 k1 h4 k2 (h5.trans e)
 · rcases h with h| ⟨r,h0,h1,h2,h3,h4,h5⟩
   · refine⟨.inr h,fun r' ql k1 k2 e=>ho.qU r' k1 k2 (e ▸ h)⟩
   · refine⟨.inl ⟨r,h2,h3,h4,h5⟩,fun r' ql k1 k2 e=> ?_⟩
     have c9:r≠r':=fun e=>h0 (e ▸ ql)
     exact ho.inj r r' c9 h2 k1 h4 k2 (h5.trans e)
theorem xx {as:List V} {vals:List Value} {rs:List Nat} {ws:List dH} (ho:bj X μ) (hp:jz X μ r0 0 as vals rs ws) (G2:apart rs (ws.map (·.r))=true) (hd:distinct (ws.map (·.r))=true):
   vals.length=as.length∧(∀t v,vals[t]? =some v→ak ⟨X.toTrEnv,dF X μ rs ws,X.tok⟩ ⟨μ.w,eL μ.φ ws,(enter as).O⟩ ((enter as).T t) v)∧
     bj ⟨X.toTrEnv,dF X μ rs ws,X.tok⟩ ⟨μ.w,eL μ.φ ws,(enter as).O⟩:=by
 have gC:=fun b=>BD (b:=b) ho hp G2
 obtain⟨hl,-,A4⟩:=hp.at
 have hi:=hp.inc
 refine⟨hl.symm,fun t v hv=> ?_,?_⟩
 · have ha:t<as.length:=by rw[hl];exact(List.getElem?_eq_some_iff.1 hv).1
   obtain⟨v',ye,hA⟩:=A4 t as[t] (List.getElem?_eq_getElem ha)
   rw[hv] at ye;injection ye with ye;subst ye
   have xy:as[t]? =some as[t]:=List.getElem?_eq_getElem ha
   simp only[Nat.zero_add] at hA
   generalize XH:as[t]=a at hA xy
   cases hA with
   | plain lJ hs=>
     have: (enter as).T t=a:=by cases a<;>simp[V.aC] at lJ<;>simp[enter,xy]
     rw[this]
     exact hs _ _ rfl gC
   | @sl r g off len es v hw bJ fY cm lJ gl yg=>
     have e1: (enter as).T t= .sl t 0 off len:=by simp[enter,xy]
     have e2: ((enter as).O t).gen=0∧((enter as).O t).sz=(μ.O r).sz:=by simp[enter,xy]
     have e3:eL μ.φ ws t=μ.φ r:=by have:=gH (φ:=μ.φ) hi _ hw;simpa using this
     rw[e1]
     simp only[ak] at yg ⊢
     obtain⟨a,cap,rfl,q1,q2,q3⟩:=yg
     refine⟨a,cap,rfl,q1,Nat.zero_le _,fun _=> ?_⟩
     rw[e2.2,e3];exact q3 cm
   | @ptr r g idx off es v hw bJ fY cm lJ yg=>
     have e1: (enter as).T t= .ptr t 0 idx off:=by simp[enter,xy]
     have e2: ((enter as).O t).gen=0∧((enter as).O t).sz=(μ.O r).sz:=by simp[enter,xy]
     have e3:eL μ.φ ws t=μ.φ r:=by have:=gH (φ:=μ.φ) hi _ hw;simpa using this
     rw[e1]
     simp only[ak] at yg ⊢
     obtain⟨a,rfl,q2,q3⟩:=yg
     refine⟨a,rfl,Nat.zero_le _,fun _=> ?_⟩
     rw[e2.2,e3];exact q3 cm
   | @fresh sz v hw cE yg=>
     have e1: (enter as).T t= .sl t 0 0 0:=by simp[enter,xy]
     have e3:eL μ.φ ws t=⟨0,0,0⟩:=by have:=gH (φ:=μ.φ) hi _ hw;simpa using this
     rw[e1]
     obtain⟨a,rfl⟩:=yg
     simp only[ak]
     exact⟨a,0,rfl,Nat.le_refl _,Nat.zero_le _,fun _=> ⟨by simp[enter,xy,cE],by rw[e3],.inl rfl⟩⟩
 · refine⟨ fun j es bJ=> ?_,fun j1 j2 c9 h1 h2 h3 h4=> ?_,fun j h1 h2 hb=> ?_,fun b hb=> ?_⟩
   · rcases iP hp j with h| ⟨r,es',k1,k2,k3,k4,k5,k6,k7,k8,k9⟩ | ⟨sz,k1,k2,k3,k4,k5,k6,k7⟩
     · simp only[h,bD] at bJ;simp at bJ
     · simp only at bJ
       rw[k8] at bJ;injection bJ with bJ;subst bJ
       rcases ho.ok r es' k2 with⟨q1,q2,q3,q4⟩ | ⟨m1,m2,ob,m3,m4⟩
       · refine .inl ?_
         unfold jI
         simp only[k6,k9]
         refine⟨q1,q2,q3,q4.imp id ?_⟩
         rintro⟨c,T,vs,p1,p2,p3,p4⟩
         exact⟨c,T,vs,p1,p2,bL (X:=X) (μ:=μ) (μ':=⟨μ.w,eL μ.φ ws,(enter as).O⟩) rfl (fun b hb=> (gC b hb).1) k4 p3,p4⟩
       · refine .inr ?_
         unfold ph
         simp only[k6,k9]
         refine⟨m1,m2,ob,m3,?_⟩
         rcases m4 with⟨ents,clock,e1,e2,e3⟩ | m4| ⟨mo,since,mX,e1,e2,e3⟩
         · exact .inl ⟨ents,clock,e1,bL (X:=X) (μ:=μ) (μ':=⟨μ.w,eL μ.φ ws,(enter as).O⟩) rfl (fun b hb=> (gC b hb).1) k4 e2,e3⟩
         · exact .inr (.inl m4)
         · subst e2
           refine .inr (.inr ⟨mo,since,mX,e1,rfl,e3.imp id ?_⟩)
           rintro⟨m,ents,l1,l2,l3,l4,l5,l6⟩
           exact⟨m,ents,l1,fun h=>l2 (gC m h).1,l3,l4,l5,bL (X:=X) (μ:=μ) (μ':=⟨μ.w,eL μ.φ ws,(enter as).O⟩) rfl (fun b hb=> (gC b hb).1) (by simpa [V.aq,V.aC] using k4) l6⟩
     · simp only at bJ
       rw[k6] at bJ;injection bJ with bJ;subst bJ
       refine .inl ?_
       unfold jI
       simp only[k4,k7]
       exact⟨k2,by simp,rfl,by simp⟩
   · simp only at h1 h2 h3 h4 ⊢
     rcases iP hp j1 with h| ⟨r,es',k1,k2,k3,k4,k5,k6,k7,k8,k9⟩ | ⟨sz,k1,k2,k3,k4,k5,k6,k7⟩
     · rw[h] at h1;simp[bD] at h1
     · rcases iP hp j2 with h| ⟨r',Qw,l1,l2,l3,l4,l5,l6,l7,l8,l9⟩ | ⟨sz,l1,l2,l3,l4,l5,l6,l7⟩
       · rw[h] at h2;simp[bD] at h2
       · rw[k9] at h3 ⊢
         rw[l9] at h4 ⊢
         refine ho.inj r r' (fun e=> ?_) (by simp[k2]) (by simp[l2]) h3 h4
         have:=nO hd _ k1 _ l1 e
         injection this with e1;exact c9 e1
       · rw[l7] at h4;simp at h4
     · rw[k7] at h3;simp at h3
   · simp only at h1 h2 hb
     rcases iP hp j with h| ⟨r,es',k1,k2,k3,k4,k5,k6,k7,k8,k9⟩ | ⟨sz,k1,k2,k3,k4,k5,k6,k7⟩
     · rw[h] at h1;simp[bD] at h1
     · rw[k9] at h2 hb
       rcases hb with hb| ⟨r',g0,g1,g2,g3,g4,g5⟩
       · exact ho.qU r (by simp[k2]) h2 hb
       · have c9:r'≠r:=fun e=>g1 (List.mem_map.2 ⟨_,k1,e.symm⟩)
         exact ho.inj r' r c9 g2 (by simp[k2]) g4 h2 g5
     · rw[k7] at h2;simp at h2
   · rcases hb with hb| ⟨r',g0,g1,g2,g3,g4,g5⟩
     · exact ho.blt b hb
     · obtain⟨es',he⟩:=Option.isSome_iff_exists.1 g2
       rw[←g5];exact eY.cD (ho.ok r' es' he) g4
end
end Go.AM
namespace Go.AM
open Go Go.RowKit
section
variable {X X':Ctx} {μ μ':Mu}
mutual
theorem weaken (hX:X'.toTrEnv=X.toTrEnv) (hk:X'.tok=X.tok) (hw:μ'.w=μ.w) (hφ:μ'.φ=μ.φ) (hO: ∀r,(μ'.O r).gen=(μ.O r).gen∧(μ'.O r).sz=(μ.O r).sz) (ho: ∀b,Own X' μ' b→Own X μ b): ∀ {x:V} {v:Value},ak X μ x v→ak X' μ' x v
 | .bool _,_,h| .int ..,_,h| .float _,_,h| .str _,_,h| .nilp,_,h| .nilfn,_,h| .nili,_,h| .nils,_,h=>by simpa [ak] using h
 | .any,_,_=>by simp[ak]
 | .own ..,_,h| .msl ..,_,h| .mptr ..,_,h=>by simp[ak] at h
 | .agg cs,_,h=>by
   simp only[ak] at h ⊢
   obtain⟨h1,vs,rfl,h2⟩:=h
   exact⟨h1,vs,rfl,kS hX hk hw hφ hO ho h2⟩
 | .tuple cs,_,h=>by
   simp only[ak] at h ⊢
   obtain⟨vs,rfl,h2⟩:=h
   exact⟨vs,rfl,kS hX hk hw hφ hO ho h2⟩
 | .fn f cs,_,h=>by
   simp only[ak] at h ⊢
   obtain⟨F,cv,rfl,h1,h2⟩:=h
   exact⟨F,cv,rfl,by rw[hX];exact h1,kS hX hk hw hφ hO ho h2⟩
 | .iface t x,_,h=>by
   simp only[ak] at h ⊢
   obtain⟨F,y,rfl,h1,h2⟩:=h
   exact⟨F,y,rfl,by rw[hX];exact h1,weaken hX hk hw hφ hO ho h2⟩
 | .lit sz xs,_,h=>by
   simp only[ak] at h ⊢
   obtain⟨h0,jy,a,cap,vs,rfl,h1,h2,h3⟩:=h
   refine⟨h0,jy,a,cap,vs,rfl,h1,kS hX hk hw hφ hO ho h2,h3.imp id ?_⟩
   rintro⟨b,o,rfl,hb,hs,hr⟩
   exact⟨b,o,rfl,fun hh=>hb (ho b hh),by rw[hw];exact hs,by rw[hw];exact hr⟩
 | .sl r g off len,_,h=>by
   simp only[ak] at h ⊢
   rw[hφ,(hO r).1,(hO r).2];exact h
 | .ptr r g idx off,_,h=>by
   simp only[ak] at h ⊢
   rw[hφ,(hO r).1,(hO r).2];exact h
 | .litk sz xs,_,h=>by
   simp only[ak] at h ⊢
   obtain⟨h0,jy,a,cap,vs,rfl,h1,h2,h3⟩:=h
   refine⟨h0,jy,a,cap,vs,rfl,h1,kS hX hk hw hφ hO ho h2,h3.imp id ?_⟩
   rintro⟨rfl,hb,hs,hr⟩
   rw[hk]
   exact⟨rfl,fun hh=>hb (ho _ hh),by rw[hw];exact hs,by rw[hw];exact hr⟩
 | .epk i sz e off,_,h=>by
   simp only[ak] at h ⊢
   obtain⟨h0,jy,x,rfl,hb,hs,h1,hr⟩:=h
   rw[hk]
   exact⟨h0,jy,x,rfl,fun hh=>hb (ho _ hh),by rw[hw];exact hs,weaken hX hk hw hφ hO ho h1,by rw[hw];exact hr⟩
 | .eptr e off,_,h=>by
   simp only[ak] at h ⊢
   obtain⟨h0,jy,b,o,sz,x,rfl,hb,hs,h1,hr⟩:=h
   exact⟨h0,jy,b,o,sz,x,rfl,fun hh=>hb (ho b hh),by rw[hw];exact hs,weaken hX hk hw hφ hO ho h1,by rw[hw];exact hr⟩
 | .mp r g,_,h| .it r g,_,h=>by
   simp only[ak] at h ⊢
   rw[hφ,(hO r).1,(hO r).2];exact h
 | .mlit es,_,h=>by
   simp only[ak] at h ⊢
   obtain⟨h0,h⟩:=h
   refine⟨h0,h.imp id ?_⟩
   rintro⟨a,ents,clock,rfl,hb,hs,h1,h2⟩
   exact⟨a,ents,clock,rfl,fun hh=>hb (ho a hh),by rw[hw];exact hs,by rw[hw];exact h1,kS hX hk hw hφ hO ho h2⟩
theorem kS (hX:X'.toTrEnv=X.toTrEnv) (hk:X'.tok=X.tok) (hw:μ'.w=μ.w) (hφ:μ'.φ=μ.φ) (hO: ∀r,(μ'.O r).gen=(μ.O r).gen∧(μ'.O r).sz=(μ.O r).sz) (ho: ∀b,Own X' μ' b→Own X μ b): ∀ {xs:List V} {vs:List Value},aj X μ xs vs→aj X' μ' xs vs
 | [],[],_=>by simp[aj]
 | [],_::_,h=>by simp[aj] at h
 | _::_,[],h=>by simp[aj] at h
 | x::xs,v::vs,h=>by
   simp only[aj] at h ⊢
   exact⟨weaken hX hk hw hφ hO ho h.1,kS hX hk hw hφ hO ho h.2⟩
end
mutual
theorem lB (hX:X'.toTrEnv=X.toTrEnv): ∀ {x:V} {v:Value},V.isScalar x=true→ak X μ x v→ak X' μ' x v
 | .bool _,_,_,h| .int ..,_,_,h| .float _,_,_,h| .str _,_,_,h| .nilp,_,_,h| .nilfn,_,_,h| .nili,_,_,h| .nils,_,_,h=>by simpa [ak] using h
 | .any,_,hp,_| .own ..,_,hp,_| .msl ..,_,hp,_| .mptr ..,_,hp,_| .sl ..,_,hp,_| .ptr ..,_,hp,_| .lit ..,_,hp,_| .eptr ..,_,hp,_| .litk ..,_,hp,_| .epk ..,_,hp,_| .mp ..,_,hp,_| .it ..,_,hp,_| .mlit ..,_,hp,_| .fn ..,_,hp,_| .iface ..,_,hp,_=>by simp[V.isScalar] at hp
 | .agg cs,_,hp,h=>by
   simp only[ak] at h ⊢
   obtain⟨h1,vs,rfl,h2⟩:=h
   exact⟨h1,vs,rfl,eW hX (by simpa [V.isScalar] using hp) h2⟩
 | .tuple cs,_,hp,h=>by
   simp only[ak] at h ⊢
   obtain⟨vs,rfl,h2⟩:=h
   exact⟨vs,rfl,eW hX (by simpa [V.isScalar] using hp) h2⟩
theorem eW (hX:X'.toTrEnv=X.toTrEnv): ∀ {xs:List V} {vs:List Value},V.bn xs=true→aj X μ xs vs→aj X' μ' xs vs
 | [],[],_,_=>by simp[aj]
 | [],_::_,_,h=>by simp[aj] at h
 | _::_,[],_,h=>by simp[aj] at h
 | x::xs,v::vs,hp,h=>by
   simp only[aj] at h ⊢
   simp only[V.bn,Bool.and_eq_true] at hp
   exact⟨lB hX hp.1 h.1,eW hX hp.2 h.2⟩
end
end
structure ze (Y:Ctx) (μf μ1:Mu) (r j:Nat) (row:Row) (o:Obj):Prop where
 es: ∃es,o.es=some es∧V.aq es=true∧0 <o.sz∧es.length≤row.cap∧es.all (aN · o.sz)=true∧
  (row.cap=0∨ ∃c T vs,μ1.w.heap[row.cD]? =some (.cells c T (0,0))∧row.base+row.cap*o.sz≤c.size∧aj Y μ1 es vs∧dz μ1.w row.cD row.base o.sz vs)
 live: (μ1.O j).es.isSome=true∧(μ1.O j).fz=false
 cD:row.cap≠0→(μ1.φ j).cap≠0∧row.cD=(μ1.φ j).cD
 gen: (μf.O r).gen<o.gen∨(o.gen=(μf.O r).gen∧row=μf.φ r∧o.sz=(μf.O r).sz)
 sc: (∀es,(μ1.O j).es=some es→V.bn es=true)→ ∀es,o.es=some es→V.bn es=true
structure eM (Y:Ctx) (μf μ1:Mu) (U:Nat→Prop) (A:Nat→Option Nat) (φ:Nat→Row) (O:Nat→Obj):Prop where
 yh: ∀r,A r=none→O r=μf.O r∧φ r=μf.φ r
 vZ: ∀r j,A r=some j→ze Y μf μ1 r j (φ r) (O r)∧U j
 inj: ∀r1 r2 j,A r1=some j→A r2=some j→r1=r2
def dt (φ:Nat→Row) (O:Nat→Obj) (φ':Nat→Row) (O':Nat→Obj):Prop:=
 ∀r,(O r).gen≤(O' r).gen∧((O' r).gen=(O r).gen→φ' r=φ r∧(O' r).sz=(O r).sz)
theorem dt.refl (φ:Nat→Row) (O:Nat→Obj):dt φ O φ O:=fun _=> ⟨Nat.le_refl _,fun _=> ⟨rfl,rfl⟩⟩
theorem dt.trans {φ φ' φ'':Nat→Row} {O O' XR:Nat→Obj} (h:dt φ O φ' O') (k:dt φ' O' φ'' XR):dt φ O φ'' XR:=fun r=>by
 obtain⟨h1,h2⟩:=h r
 obtain⟨k1,k2⟩:=k r
 refine⟨Nat.le_trans h1 k1,fun e=> ?_⟩
 obtain⟨a1,a2⟩:=h2 (by omega)
 obtain⟨b1,b2⟩:=k2 (by omega)
 exact⟨b1.trans a1,b2.trans a2⟩
def lC (μ1:Mu) (φ:Nat→Row) (O:Nat→Obj) (i r g:Nat):Prop:=g≤(O r).gen∧((O r).gen=g→φ r=μ1.φ i∧(O r).sz=(μ1.O i).sz)
theorem lC.mono {μ1:Mu} {φ φ':Nat→Row} {O O':Nat→Obj} {i r g:Nat} (h:lC μ1 φ O i r g) (m:dt φ O φ' O'):lC μ1 φ' O' i r g:=by
 obtain⟨m1,m2⟩:=m r
 refine⟨Nat.le_trans h.1 m1,fun e=> ?_⟩
 have:=h.1
 obtain⟨a1,a2⟩:=m2 (by omega)
 obtain⟨b1,b2⟩:=h.2 (by omega)
 exact⟨a1.trans b1,a2.trans b2⟩
theorem eM.take {Y:Ctx} {μf μ1:Mu} {U U':Nat→Prop} {A:Nat→Option Nat} {φ:Nat→Row} {O:Nat→Obj} (h:eM Y μf μ1 U A φ O) {r j:Nat} {row:Row} {o:Obj} (hj: ¬U j) (hU: ∀i,U i→U' i) (Zi:U' j)
  (ht:ze Y μf μ1 r j row o):eM Y μf μ1 U' (cW A r (some j)) (cW φ r row) (cW O r o) where
 yh:=fun r' e=>by
  by_cases e':r'=r
  · subst e';simp[aA] at e
  · rw[aU _ _ e'] at e ⊢;rw[aU _ _ e'];exact h.yh r' e
 vZ:=fun r' j' e=>by
  by_cases e':r'=r
  · subst e';simp only[aA] at e ⊢;injection e with e;subst e;exact⟨ht,Zi⟩
  · rw[aU _ _ e'] at e ⊢;rw[aU _ _ e']
    obtain⟨k1,k2⟩:=h.vZ r' j' e
    exact⟨k1,hU _ k2⟩
 inj:=fun r1 r2 j' e1 e2=>by
  by_cases q1:r1=r<;>by_cases q2:r2=r
  · rw[q1,q2]
  · subst q1
    simp only[aA] at e1;injection e1 with e1;subst e1
    rw[aU _ _ q2] at e2
    exact absurd (h.vZ r2 _ e2).2 hj
  · subst q2
    simp only[aA] at e2;injection e2 with e2;subst e2
    rw[aU _ _ q1] at e1
    exact absurd (h.vZ r1 _ e1).2 hj
  · rw[aU _ _ q1] at e1
    rw[aU _ _ q2] at e2
    exact h.inj r1 r2 j' e1 e2
theorem dt.cW {φ:Nat→Row} {O:Nat→Obj} {r:Nat} {row:Row} {o:Obj} (h: (O r).gen<o.gen∨(o.gen=(O r).gen∧row=φ r∧o.sz=(O r).sz)):dt φ O (cW φ r row) (cW O r o):=fun r'=>by
 by_cases e:r'=r
 · subst e
   simp only[aA]
   rcases h with h| ⟨h1,h2,h3⟩
   · exact⟨by omega,fun e=>by omega⟩
   · exact⟨by omega,fun _=> ⟨h2,h3⟩⟩
 · simp[aU _ _ e]
end Go.AM
namespace Go.AM
open Go Go.RowKit
section
variable {X Y:Ctx} {μ μf μ1:Mu} {r0:Nat} {C:bb} {T:Nat→V}
theorem ox (h1:bj Y μ1) {r i:Nat} {es:List V} {o:Obj} (h0:0 < (μ1.O i).sz) (bJ: (μ1.O i).es=some es) (fY: (μ1.O i).fz=false) (hp:V.aq es=true) (ho:o.es=some es) (cE:o.sz=(μ1.O i).sz)
  (hg: (μf.O r).gen<o.gen∨(o.gen=(μf.O r).gen∧μ1.φ i=μf.φ r∧o.sz=(μf.O r).sz)):ze Y μf μ1 r i (μ1.φ i) o:=by
 obtain⟨q1,q2,q3,q4⟩:=h1.row i es bJ h0
 refine⟨⟨es,ho,hp,by rw[cE];exact q1,q2,by rw[cE];exact q3,?_⟩,⟨by simp[bJ],fY⟩,fun hc=> ⟨hc,rfl⟩,hg,fun hs es' he=> ?_⟩
 · rw[cE];exact q4
 · rw[ho] at he;injection he with he;subst he;exact hs _ bJ
theorem iL {O:Nat→Obj} {i sz off len:Nat} {mX:List V} {as:List V} {outs:List (Nat×List V)} (h:bP O i (.msl sz mX off len::as)=some outs):
   ∃es jq,(O i).es=some es∧bP O (i+1) as=some jq∧(O i).fz=false∧(O i).sz=sz∧V.aq es=true∧outs=((O i).gen,es)::jq:=by
 simp only[bP] at h
 split at h
 · rename_i es jq h1 h2
   split at h
   · rename_i hc
     injection h with h
     exact⟨es,jq,h1,h2,hc.1,hc.2.1,hc.2.2,h.symm⟩
   · simp at h
 · simp at h
theorem nP {O:Nat→Obj} {i sz off len:Nat} {mX:List V} {as:List V} {outs:List (Nat×List V)} (h:bP O i (.mptr sz mX off len::as)=some outs):
   ∃es jq,(O i).es=some es∧bP O (i+1) as=some jq∧(O i).fz=false∧(O i).sz=sz∧V.aq es=true∧outs=((O i).gen,es)::jq:=by
 simp only[bP] at h
 split at h
 · rename_i es jq h1 h2
   split at h
   · rename_i hc
     injection h with h
     exact⟨es,jq,h1,h2,hc.1,hc.2.1,hc.2.2,h.symm⟩
   · simp at h
 · simp at h
theorem mD {O:Nat→Obj} {i:Nat} {a:V} {as:List V} (h:V.aC a=true):bP O i (a::as)=bP O (i+1) as:=by
 cases a<;>simp[V.aC] at h<;>rfl
theorem nQ (h1:bj Y μ1) {w0:List dH} (dI: ∀w ∈ w0,w.fresh=none→(μ1.O w.i).gen=0→μ1.φ w.i=μ.φ w.r) (hφ:μf.φ=μ.φ) (G3: ∀w ∈ w0,μf.O w.r=μ.O w.r) {S:Nat→Prop} (hS: ∀w ∈ w0,S w.i):
   ∀ {i:Nat} {as:List V} {vs:List Value} {rs:List Nat} {ws:List dH},jz X μ r0 i as vs rs ws→ ∀ {outs:List (Nat×List V)} {A:Nat→Option Nat} {φ:Nat→Row} {O:Nat→Obj} {k:List (Nat×Nat×Nat)→Act} {p:V×St},
     bP μ1.O i as=some outs→eM Y μf μ1 (fun j=>j<i∧S j) A φ O→(∀w ∈ ws,w ∈ w0)→(∀w ∈ ws,A w.r=none)→distinct (ws.map (·.r))=true→(cH ws outs k).run C ⟨T,O⟩=some p→
     ∃A' φ' O' gs,(k gs).run C ⟨T,O'⟩=some p∧eM Y μf μ1 (fun j=>j<i+as.length∧S j) A' φ' O'∧dt φ O φ' O'∧(∀w ∈ ws,A' w.r≠none)∧(∀r,A r≠none→A' r≠none)∧
       ∀x ∈ gs,lC μ1 φ' O' x.1 x.2.1 x.2.2:=by
 intro i as vs rs ws hp
 induction hp with
 | nil i=>
   intro outs A φ O k p ho ht _ _ _ ah
   simp[bP] at ho;subst ho
   exact⟨A,φ,O,[],ah,by simpa using ht,dt.refl _ _,by simp,fun _ h=>h,by simp⟩
 | @plain i a v rs rs' as vs ws lJ hs h ih=>
   intro outs A φ O k p ho ht hw hA hd ah
   rw[mD lJ] at ho
   have tO:eM Y μf μ1 (fun j=>j<i+1∧S j) A φ O:=⟨ht.yh,fun r j e=> ⟨(ht.vZ r j e).1,⟨by have:=(ht.vZ r j e).2.1;omega,(ht.vZ r j e).2.2⟩⟩,ht.inj⟩
   obtain⟨A',φ',O',gs,k1,k2,k3,k4,k5,k6⟩:=ih ho tO hw hA hd ah
   refine⟨A',φ',O',gs,k1,?_,k3,k4,k5,k6⟩
   have e:i+(a::as).length=i+1+as.length:=by simp;omega
   rw[e];exact k2
 | @sl i r g off len mX v rs as vs ws bJ fY cm lJ gl hv h ih=>
   intro outs A φ O k p ho ht hw hA hd ah
   obtain⟨es,jq,o1,o2,o3,o4,o5,rfl⟩:=iL ho
   simp only[cH,Act.run] at ah
   have G4:=hA ⟨i,r,none⟩ (by simp)
   simp only at G4
   obtain⟨n1,n2⟩:=ht.yh r G4
   have hOr:μf.O r=μ.O r:=G3 ⟨i,r,none⟩ (hw _ (by simp))
   have tu: (μf.O r).gen< (O r).gen+(μ1.O i).gen∨((O r).gen+(μ1.O i).gen=(μf.O r).gen∧μ1.φ i=μf.φ r∧(O r).sz=(μf.O r).sz):=by
     rw[n1]
     by_cases hz: (μ1.O i).gen=0
     · right;refine⟨by omega,?_,rfl⟩
       rw[hφ];exact dI ⟨i,r,none⟩ (hw _ (by simp)) rfl hz
     · left;omega
   have F0:ze Y μf μ1 r i (μ1.φ i) {O r with gen:=(O r).gen+(μ1.O i).gen,es:=some es}:=
     ox h1 (by rw[o4];simp only[ak] at hv;obtain⟨_,_,_,_,_,hh⟩:=hv;exact(hh cm).1) o1 o3 o5 rfl (by simp only[n1,hOr];exact o4.symm) tu
   have tO:=ht.take (U':=fun j=>j<i+1∧S j) (by simp) (fun j hj=> ⟨by omega,hj.2⟩) ⟨by simp,hS ⟨i,r,none⟩ (hw _ (by simp))⟩ F0
   have hm:dt φ O (cW φ r (μ1.φ i)) (cW O r {O r with gen:=(O r).gen+(μ1.O i).gen,es:=some es}):=by
     refine dt.cW ?_
     rw[n2]
     have:=tu
     rw[←n1] at this
     exact this.imp id fun hh=> ⟨hh.1,hh.2.1,hh.2.2⟩
   simp only[List.map_cons,distinct,Bool.and_eq_true,Bool.not_eq_true',List.contains_eq_mem,decide_eq_false_iff_not] at hd
   obtain⟨A',φ',O',gs,k1,k2,k3,k4,k5,k6⟩:=ih o2 tO (fun w iI=>hw w (by simp[iI])) (fun w iI=>by
     have:w.r≠r:=fun e=>hd.1 (List.mem_map.2 ⟨w,iI,e⟩)
     rw[aU _ _ this];exact hA w (by simp[iI])) hd.2 ah
   refine⟨A',φ',O',_,k1,?_,hm.trans k3,fun w iI=> ?_,fun r' ql=>k5 r' ?_,fun x hx=> ?_⟩
   · have e:i+(V.msl (μ.O r).sz mX off len::as).length=i+1+as.length:=by simp;omega
     rw[e];exact k2
   · rcases List.mem_cons.1 iI with rfl| iI
     · exact k5 r (by simp[aA])
     · exact k4 w iI
   · by_cases e:r'=r
     · subst e;simp[aA]
     · rw[aU _ _ e];exact ql
   · rcases List.mem_cons.1 hx with rfl| hx
     · refine lC.mono ⟨?_,fun _=> ?_⟩ k3
       · simp[aA]
       · simp only[aA];exact⟨trivial,by rw[n1,hOr];exact o4.symm⟩
     · exact k6 x hx
 | @ptr i r g idx off mX v rs as vs ws bJ fY cm lJ hv h ih=>
   intro outs A φ O k p ho ht hw hA hd ah
   obtain⟨es,jq,o1,o2,o3,o4,o5,rfl⟩:=nP ho
   simp only[cH,Act.run] at ah
   have G4:=hA ⟨i,r,none⟩ (by simp)
   simp only at G4
   obtain⟨n1,n2⟩:=ht.yh r G4
   have hOr:μf.O r=μ.O r:=G3 ⟨i,r,none⟩ (hw _ (by simp))
   have tu: (μf.O r).gen< (O r).gen+(μ1.O i).gen∨((O r).gen+(μ1.O i).gen=(μf.O r).gen∧μ1.φ i=μf.φ r∧(O r).sz=(μf.O r).sz):=by
     rw[n1]
     by_cases hz: (μ1.O i).gen=0
     · right;refine⟨by omega,?_,rfl⟩
       rw[hφ];exact dI ⟨i,r,none⟩ (hw _ (by simp)) rfl hz
     · left;omega
   have F0:ze Y μf μ1 r i (μ1.φ i) {O r with gen:=(O r).gen+(μ1.O i).gen,es:=some es}:=
     ox h1 (by rw[o4];simp only[ak] at hv;obtain⟨_,_,_,hh⟩:=hv;exact(hh cm).1) o1 o3 o5 rfl (by simp only[n1,hOr];exact o4.symm) tu
   have tO:=ht.take (U':=fun j=>j<i+1∧S j) (by simp) (fun j hj=> ⟨by omega,hj.2⟩) ⟨by simp,hS ⟨i,r,none⟩ (hw _ (by simp))⟩ F0
   have hm:dt φ O (cW φ r (μ1.φ i)) (cW O r {O r with gen:=(O r).gen+(μ1.O i).gen,es:=some es}):=by
     refine dt.cW ?_
     rw[n2]
     have:=tu
     rw[←n1] at this
     exact this.imp id fun hh=> ⟨hh.1,hh.2.1,hh.2.2⟩
   simp only[List.map_cons,distinct,Bool.and_eq_true,Bool.not_eq_true',List.contains_eq_mem,decide_eq_false_iff_not] at hd
   obtain⟨A',φ',O',gs,k1,k2,k3,k4,k5,k6⟩:=ih o2 tO (fun w iI=>hw w (by simp[iI])) (fun w iI=>by
     have:w.r≠r:=fun e=>hd.1 (List.mem_map.2 ⟨w,iI,e⟩)
     rw[aU _ _ this];exact hA w (by simp[iI])) hd.2 ah
   refine⟨A',φ',O',_,k1,?_,hm.trans k3,fun w iI=> ?_,fun r' ql=>k5 r' ?_,fun x hx=> ?_⟩
   · have e:i+(V.mptr (μ.O r).sz mX idx off::as).length=i+1+as.length:=by simp;omega
     rw[e];exact k2
   · rcases List.mem_cons.1 iI with rfl| iI
     · exact k5 r (by simp[aA])
     · exact k4 w iI
   · by_cases e:r'=r
     · subst e;simp[aA]
     · rw[aU _ _ e];exact ql
   · rcases List.mem_cons.1 hx with rfl| hx
     · refine lC.mono ⟨?_,fun _=> ?_⟩ k3
       · simp[aA]
       · simp only[aA];exact⟨trivial,by rw[n1,hOr];exact o4.symm⟩
     · exact k6 x hx
 | @fresh i sz v rs as vs ws cE hv h ih=>
   intro outs A φ O k p ho ht hw hA hd ah
   obtain⟨es,jq,o1,o2,o3,o4,o5,rfl⟩:=iL ho
   simp only[cH,Act.run] at ah
   have G4:=hA ⟨i,r0+i,some sz⟩ (by simp)
   simp only at G4
   obtain⟨n1,n2⟩:=ht.yh (r0+i) G4
   have F0:ze Y μf μ1 (r0+i) i (μ1.φ i) {gen:=(O (r0+i)).gen+1,sz,arr:=true,fz:=false,es:=some es}:=
     ox h1 (by rw[o4];exact cE) o1 o3 o5 rfl o4.symm (.inl (by simp only[n1];omega))
   have tO:=ht.take (U':=fun j=>j<i+1∧S j) (by simp) (fun j hj=> ⟨by omega,hj.2⟩) ⟨by simp,hS ⟨i,r0+i,some sz⟩ (hw _ (by simp))⟩ F0
   have hm:dt φ O (cW φ (r0+i) (μ1.φ i)) (cW O (r0+i) {gen:=(O (r0+i)).gen+1,sz,arr:=true,fz:=false,es:=some es}):=
     dt.cW (.inl (by simp))
   simp only[List.map_cons,distinct,Bool.and_eq_true,Bool.not_eq_true',List.contains_eq_mem,decide_eq_false_iff_not] at hd
   obtain⟨A',φ',O',gs,k1,k2,k3,k4,k5,k6⟩:=ih o2 tO (fun w iI=>hw w (by simp[iI])) (fun w iI=>by
     have:w.r≠r0+i:=fun e=>hd.1 (List.mem_map.2 ⟨w,iI,e⟩)
     rw[aU _ _ this];exact hA w (by simp[iI])) hd.2 ah
   refine⟨A',φ',O',_,k1,?_,hm.trans k3,fun w iI=> ?_,fun r' ql=>k5 r' ?_,fun x hx=> ?_⟩
   · have e:i+(V.msl sz [] 0 0::as).length=i+1+as.length:=by simp;omega
     rw[e];exact k2
   · rcases List.mem_cons.1 iI with rfl| iI
     · exact k5 (r0+i) (by simp[aA])
     · exact k4 w iI
   · by_cases e:r'=r0+i
     · subst e;simp[aA]
     · rw[aU _ _ e];exact ql
   · rcases List.mem_cons.1 hx with rfl| hx
     · refine lC.mono ⟨?_,fun _=> ?_⟩ k3
       · simp[aA]
       · simp only[aA];exact⟨trivial,o4.symm⟩
     · exact k6 x hx
theorem DA {O:Nat→Obj} {i:Nat} {as:List V} {vs:List Value} {rs:List Nat} {ws:List dH} (hp:jz X μ r0 i as vs rs ws): ∀ {outs:List (Nat×List V)},bP O i as=some outs→
   ∀w ∈ ws,∃g es,(O w.i).es=some es∧(g,es) ∈ outs:=by
 induction hp with
 | nil i=>intro outs _ w hw;simp at hw
 | plain lJ hs h ih=>intro outs ho;rw[mD lJ] at ho;exact ih ho
 | @sl i r g off len mX v rs as vs ws bJ fY cm lJ gl hv h ih=>
   intro outs ho w hw
   obtain⟨es,jq,o1,o2,o3,o4,o5,rfl⟩:=iL ho
   rcases List.mem_cons.1 hw with rfl| hw
   · exact⟨_,es,o1,List.mem_cons_self⟩
   · obtain⟨g,es',k1,k2⟩:=ih o2 w hw;exact⟨g,es',k1,by simp[k2]⟩
 | @ptr i r g idx off mX v rs as vs ws bJ fY cm lJ hv h ih=>
   intro outs ho w hw
   obtain⟨es,jq,o1,o2,o3,o4,o5,rfl⟩:=nP ho
   rcases List.mem_cons.1 hw with rfl| hw
   · exact⟨_,es,o1,List.mem_cons_self⟩
   · obtain⟨g,es',k1,k2⟩:=ih o2 w hw;exact⟨g,es',k1,by simp[k2]⟩
 | @fresh i sz v rs as vs ws cE hv h ih=>
   intro outs ho w hw
   obtain⟨es,jq,o1,o2,o3,o4,o5,rfl⟩:=iL ho
   rcases List.mem_cons.1 hw with rfl| hw
   · exact⟨_,es,o1,List.mem_cons_self⟩
   · obtain⟨g,es',k1,k2⟩:=ih o2 w hw;exact⟨g,es',k1,by simp[k2]⟩
end
end Go.AM
namespace Go.AM
open Go Go.RowKit
def after (Y:Ctx) (μ1:Mu) (n:Nat) (bF:Bool) (b:Nat):Prop:=
 Y.GI b∨ ∃j,(bF=true∨j<n)∧(μ1.O j).es.isSome=true∧(μ1.O j).fz=false∧(μ1.φ j).cap≠0∧(μ1.φ j).cD=b
def quiet (μ1:Mu) (φ:Nat→Row) (O:Nat→Obj):Mu:=⟨μ1.w,φ,fun r=> {O r with fz:=true}⟩
theorem qz {μ1:Mu} {φ:Nat→Row} {O:Nat→Obj} {b:Nat}: ¬ (quiet μ1 φ O).own b:=by
 rintro⟨r,_,h,_⟩;simp[quiet] at h
theorem xz {μ1:Mu} {φ φ':Nat→Row} {O O':Nat→Obj} (h:dt φ O φ' O'):Le (quiet μ1 φ O) (quiet μ1 φ' O'):=
 ⟨Nat.le_refl _,fun _ _ _=> ⟨rfl,qz⟩,fun r=> (h r).1,fun r e=> (h r).2 e,rfl,rfl,rfl,fun _ _=>rfl⟩
theorem iC: ∀ {as bs:List Nat},distinct (as++bs)=true→distinct as=true∧distinct bs=true∧ ∀b ∈ bs,b ∉ as
 | [],bs,h=> ⟨rfl,h,fun _ _=>by simp⟩
 | a::as,bs,h=>by
   simp only[List.cons_append,distinct,Bool.and_eq_true,Bool.not_eq_true',List.contains_eq_mem,decide_eq_false_iff_not,List.mem_append,not_or] at h ⊢
   obtain⟨h1,h2⟩:=h
   obtain⟨k1,k2,k3⟩:=iC h2
   refine⟨⟨h1.1,k1⟩,k2,fun b hb=> ?_⟩
   simp only[List.mem_cons,not_or]
   exact⟨fun e=>h1.2 (e ▸ hb),k3 b hb⟩
theorem rq {i r g:Nat}: ∀ {gs:List (Nat×Nat×Nat)},eR i gs=some (r,g)→(i,r,g) ∈ gs
 | [],h=>by simp[eR] at h
 | (j,r',g')::gs,h=>by
   simp only[eR] at h
   split at h
   · rename_i e
     subst e
     simp only[Option.some.injEq,Prod.mk.injEq] at h
     simp[h.1,h.2]
   · exact List.mem_cons_of_mem _ (rq h)
theorem mE: ∀ {es:List V} (n:Nat),V.bn es=true→V.bn (es.take n)=true
 | _,0,_=>by simp[V.bn]
 | [],_+1,_=>by simp[V.bn]
 | x::xs,n+1,h=>by
   simp only[V.bn,Bool.and_eq_true] at h
   simp only[List.take_succ_cons,V.bn,Bool.and_eq_true]
   exact⟨h.1,mE n h.2⟩
theorem mF: ∀ {es:List V} (n:Nat),V.bn es=true→V.bn (es.drop n)=true
 | _,0,h=>by simpa using h
 | [],_+1,_=>by simp[V.bn]
 | x::xs,n+1,h=>by
   simp only[V.bn,Bool.and_eq_true] at h
   simpa using mF n h.2
theorem qA {es:List V} {off len:Nat} (h:V.bn es=true):V.bn (aH es off len)=true:=mE _ (mF _ h)
section
variable {Y:Ctx} {μf μ1:Mu} {n:Nat} {bF:Bool} {C:bb} {T:Nat→V}
theorem iQ {φ:Nat→Row} {O:Nat→Obj} {b:Nat} (h:Own ⟨Y.toTrEnv,after Y μ1 n bF,Y.tok⟩ (quiet μ1 φ O) b):Own Y μ1 b:=by
 rcases h with h| h| ⟨j,_,h1,h2,h3,h4⟩
 · exact absurd h qz
 · exact .inr h
 · exact .inl ⟨j,h1,h2,h3,h4⟩
theorem gI (h1:bj Y μ1) {U:Nat→Prop} {A:Nat→Option Nat} {φ:Nat→Row} {O:Nat→Obj} {gs:List (Nat×Nat×Nat)} {c:V} {rs:List Nat} {val:Value} {r:Nat} {k:V→Act} {p:V×St}
   (ht:eM Y μf μ1 U A φ O) (Zj: ∀r,(μf.O r).gen≤(O r).gen) (w7: ∀x ∈ gs,lC μ1 φ O x.1 x.2.1 x.2.2) (he:Li Y μ1 n c rs val) (hU: ∀j ∈ rs,n≤j→ ¬U j) (ah: (bT bF r gs c k).run C ⟨T,O⟩=some p):
   ∃A' φ' O' c',(k c').run C ⟨T,O'⟩=some p∧eM Y μf μ1 (fun j=>U j∨(bF=true∧j ∈ rs)) A' φ' O'∧dt φ O φ' O'∧(∀r,A r≠none→A' r≠none)∧
     ak ⟨Y.toTrEnv,after Y μ1 n bF,Y.tok⟩ (quiet μ1 φ' O') c' val∧(c.gX=true→c'.aI=true):=by
 have F0:eM Y μf μ1 (fun j=>U j∨(bF=true∧j ∈ rs)) A φ O:=⟨ht.yh,fun r j e=> ⟨(ht.vZ r j e).1,.inl (ht.vZ r j e).2⟩,ht.inj⟩
 cases he with
 | pure hp hv=>
   refine⟨A,φ,O,c,?_,F0,dt.refl _ _,fun _ h=>h,dj (X:=Y) (μ:=μ1) (μ':=quiet μ1 φ O) rfl (fun b=>iQ) hp hv,fun hc=> ?_⟩
   · cases c<;>simp[V.aC] at hp<;>simpa [bT,V.aC,hp] using ah
   · cases c<;>simp_all[V.aC,V.gX]
 | @sl j g off len es val hr bJ hg hl hv=>
   simp only[bT] at ah
   split at ah
   · rename_i r' g' Zk
     obtain⟨g1,g2⟩:=w7 _ (rq Zk)
     refine⟨A,φ,O,_,ah,F0,dt.refl _ _,fun _ h=>h,?_,fun _=>rfl⟩
     simp only[ak] at hv ⊢
     obtain⟨a,cap,rfl,q1,q2,q3⟩:=hv
     refine⟨a,cap,rfl,q1,g1,fun e=> ?_⟩
     obtain⟨e1,e2⟩:=g2 e
     simp only[quiet] at e1 e2 ⊢
     rw[e1,e2];exact q3 hg
   · exact absurd ah an
 | @own j g off len es val hr bJ fY hg hl hp hv=>
   simp only[bT] at ah
   have a0:0 < (μ1.O j).sz:=by simp only[ak] at hv;obtain⟨_,_,_,_,_,hh⟩:=hv;exact(hh hg).1
   obtain⟨q1,q2,q3,q4⟩:=h1.row j es bJ a0
   have mZ: (aH es off len).length=len:=by simp[aH];omega
   have Lk: (aH es off len).all (aN · (μ1.O j).sz)=true:=by
     simp only[List.all_eq_true] at q3 ⊢
     exact fun x hx=>q3 x (List.mem_of_mem_drop (List.mem_of_mem_take hx))
   have kb: (aH es off len).all V.cX=true:=by
     simp only[List.all_eq_true] at Lk ⊢
     exact fun x hx=> (b7 (Lk x hx)).1
   simp only[ak] at hv
   obtain⟨a,cap,rfl,s1,s2,s3⟩:=hv
   obtain⟨-,a1,a2⟩:=s3 hg
   cases XS:bF with
   | true=>
     subst XS
     rw[if_pos rfl] at ah
     simp only[Act.run] at ah
     have dI: (⟨(μ1.φ j).cD,(μ1.φ j).base+off*(μ1.O j).sz,cap⟩:Row).cap=cap:=rfl
     have Q3:ze Y μf μ1 r j ⟨(μ1.φ j).cD,(μ1.φ j).base+off*(μ1.O j).sz,cap⟩ {gen:=(O r).gen+1,sz:=(μ1.O j).sz,arr:=true,fz:=false,es:=some (aH es off len)}:=by
       refine⟨⟨_,rfl,hp,q1,by simp only[mZ];exact s1,Lk,?_⟩,⟨by simp[bJ],fY⟩,fun hc=> ⟨?_,rfl⟩,.inl ?_,fun hs es' he=> ?_⟩
       · rcases q4 with q4| ⟨cc,TT,vs,p1,p2,p3,p4⟩
         · left;simp only;omega
         · right
           refine⟨cc,TT,(vs.drop off).take len,p1,?_,aj.take _ (aj.drop _ p3),(p4.drop off).take len⟩
           simp only
           rw[←a1,Nat.add_mul] at p2
           omega
       · simp only at hc;omega
       · have:=Zj r;simp only;omega
       · simp only at he;injection he with he;subst he
         exact qA (hs es bJ)
     have hm:dt φ O (cW φ r ⟨(μ1.φ j).cD,(μ1.φ j).base+off*(μ1.O j).sz,cap⟩) (cW O r {gen:=(O r).gen+1,sz:=(μ1.O j).sz,arr:=true,fz:=false,es:=some (aH es off len)}):=
       dt.cW (.inl (by simp))
     refine⟨_,_,_,_,ah,ht.take (U':=fun i=>U i∨(True∧i ∈ [j])) (hU j (by simp) hr) (fun i hi=> .inl hi) (by simp) Q3 |> fun t=>by simpa using t,hm,fun r' ql=> ?_,?_,fun _=>rfl⟩
     · by_cases e:r'=r
       · subst e;simp[aA]
       · rw[aU _ _ e];exact ql
     · simp only[ak,quiet,aA]
       refine⟨a,cap,by rw[mZ],by rw[mZ];exact s1,Nat.le_refl _,fun _=> ⟨a0,by omega,a2.imp id fun e=> ?_⟩⟩
       rw[e];simp
   | false=>
     subst XS
     rw[if_neg (by simp)] at ah
     refine⟨A,φ,O,_,ah,F0,dt.refl _ _,fun _ h=>h,?_,fun _=>rfl⟩
     simp only[ak]
     by_cases yd:len=0
     · exact⟨hp,kb,a,cap,[],by rw[mZ],by omega,by simp[aH,yd,aj],.inl (by simpa using mZ.trans yd)⟩
     · rcases q4 with q4| ⟨cc,TT,vs,p1,p2,p3,p4⟩
       · omega
       · refine⟨hp,kb,a,cap,(vs.drop off).take len,by rw[mZ],by omega,bL (X:=Y) (μ:=μ1) (μ':=quiet μ1 φ O) rfl (fun b=>iQ) hp (aj.take _ (aj.drop _ p3)),
           .inr ⟨_,_,a2.resolve_left (by omega),?_,(Array.getElem?_eq_some_iff.1 p1).1,(p4.drop off).take len⟩⟩
         rintro(h| h| ⟨j',k0,k1,k2,k3,k4⟩)
         · exact qz h
         · exact h1.qU j (by simp[bJ]) (by omega) h
         · have Mq:j'<n:=by simpa using k0
           exact h1.inj j' j (by omega) k1 (by simp[bJ]) k3 (by omega) k4
theorem eM.lo {U:Nat→Prop} {A:Nat→Option Nat} {φ:Nat→Row} {O:Nat→Obj} (h:eM Y μf μ1 U A φ O) (r:Nat): (μf.O r).gen≤(O r).gen:=by
 cases e:A r with
 | none=>rw[(h.yh r e).1];exact Nat.le_refl _
 | some j=>
   rcases(h.vZ r j e).1.gen with h| ⟨h,_⟩ <;>omega
def v7 (Y:Ctx) (μf μ1:Mu) (C:bb) (T:Nat→V) (U:Nat→Prop) (A:Nat→Option Nat) (φ:Nat→Row) (O:Nat→Obj) {α:Type} (k:α→Act) (p:V×St) (G: (Nat→Row)→(Nat→Obj)→α→Prop):Prop:=
 ∃A' φ' O' c',(k c').run C ⟨T,O'⟩=some p∧eM Y μf μ1 U A' φ' O'∧dt φ O φ' O'∧(∀r,A r≠none→A' r≠none)∧G φ' O' c'
theorem eM.more {U U':Nat→Prop} {A:Nat→Option Nat} {φ:Nat→Row} {O:Nat→Obj} (h:eM Y μf μ1 U A φ O) (hU: ∀j,U j→U' j):eM Y μf μ1 U' A φ O:=
 ⟨h.yh,fun r j e=> ⟨(h.vZ r j e).1,hU _ (h.vZ r j e).2⟩,h.inj⟩
theorem pI (h1:bj Y μ1): ∀ {U:Nat→Prop} {A:Nat→Option Nat} {φ:Nat→Row} {O:Nat→Obj} {gs:List (Nat×Nat×Nat)} {cs:List V} {rs:List Nat} {vals:List Value} {r:Nat} {k:List V→Act} {p:V×St},
   eM Y μf μ1 U A φ O→(∀x ∈ gs,lC μ1 φ O x.1 x.2.1 x.2.2)→ue Y μ1 n cs rs vals→(∀j ∈ rs,n≤j→ ¬U j)→distinct rs=true→(cq bF r gs cs k).run C ⟨T,O⟩=some p→
   v7 Y μf μ1 C T (fun j=>U j∨(bF=true∧j ∈ rs)) A φ O k p fun φ' O' cI=>aj ⟨Y.toTrEnv,after Y μ1 n bF,Y.tok⟩ (quiet μ1 φ' O') cI vals∧(cs.all V.gX=true→cI.all V.aI=true):=by
 intro U A φ O gs cs rs vals r k p ht w7 he hU hd ah
 induction he generalizing U A φ O r k with
 | nil=>exact⟨A,φ,O,[],ah,ht.more fun j h=> .inl h,dt.refl _ _,fun _ h=>h,by simp[aj],fun _=>rfl⟩
 | @cons c rs rs' val cs vals h hs ih=>
   obtain⟨d1,d2,d3⟩:=iC hd
   simp only[cq] at ah
   obtain⟨A1,φ1,O1,c1,k1,k2,k3,k4,k5,k6⟩:=gI h1 ht ht.lo w7 h (fun j hj=>hU j (by simp[hj])) ah
   obtain⟨A2,φ2,O2,WA,m1,m2,m3,m4,m5,m6⟩:=ih k2 (fun x hx=> (w7 x hx).mono k3) (fun j hj hn hu=>by
     rcases hu with hu| ⟨_,hu⟩
     · exact hU j (by simp[hj]) hn hu
     · exact d3 j hj hu) d2 k1
   refine⟨A2,φ2,O2,c1::WA,m1,m2.more fun j hj=> ?_,k3.trans m3,fun r' h=>m4 r' (k4 r' h),?_,?_⟩
   · rcases hj with(hj| ⟨e,hj⟩) | ⟨e,hj⟩
     · exact .inl hj
     · exact .inr ⟨e,by simp[hj]⟩
     · exact .inr ⟨e,by simp[hj]⟩
   · simp only[aj];exact⟨ak.mono (xz m3) k5,m5⟩
   · simp only[List.all_cons,Bool.and_eq_true]
     exact fun hc=> ⟨k6 hc.1,m6 hc.2⟩
theorem gJ: ∀ {cs:List V},V.aq cs=true→cs.all V.gX=true→cs.all V.aI=true
 | [],_,_=>rfl
 | a::as,hp,hc=>by
   simp only[V.aq,Bool.and_eq_true] at hp
   simp only[List.all_cons,Bool.and_eq_true] at hc ⊢
   refine⟨?_,gJ hp.2 hc.2⟩
   have h1:=hp.1
   have h2:=hc.1
   cases a<;>simp_all[V.aC,V.gX]
theorem nR (h1:bj Y μ1) {U:Nat→Prop} {A:Nat→Option Nat} {φ:Nat→Row} {O:Nat→Obj} {gs:List (Nat×Nat×Nat)} {c:V} {rs:List Nat} {val:Value} {r:Nat} {k:V→Act} {p:V×St}
   (ht:eM Y μf μ1 U A φ O) (w7: ∀x ∈ gs,lC μ1 φ O x.1 x.2.1 x.2.2) (he:BC Y μ1 n c rs val) (hU: ∀j ∈ rs,n≤j→ ¬U j) (hd:distinct rs=true) (ah: (ed bF r gs c k).run C ⟨T,O⟩=some p):
   v7 Y μf μ1 C T (fun j=>U j∨(bF=true∧j ∈ rs)) A φ O k p fun φ' O' c'=>ak ⟨Y.toTrEnv,after Y μ1 n bF,Y.tok⟩ (quiet μ1 φ' O') c' val:=by
 unfold ed at ah
 split at ah
 · rename_i hp
   refine⟨A,φ,O,c,ah,ht.more fun j h=> .inl h,dt.refl _ _,fun _ h=>h,?_⟩
   cases he with
   | cell h=>
     cases h with
     | pure yf hv=>exact dj (X:=Y) (μ:=μ1) (μ':=quiet μ1 φ O) rfl (fun b=>iQ) hp hv
     | sl=>simp[V.aC] at hp
     | own=>simp[V.aC] at hp
   | @agg cs _ vals hc h=>
     have yf:V.aq cs=true:=by simpa [V.aC] using hp
     obtain⟨hv,_⟩:=h.cr yf
     simp only[ak]
     exact⟨gJ yf hc,_,rfl,bL (X:=Y) (μ:=μ1) (μ':=quiet μ1 φ O) rfl (fun b=>iQ) yf hv⟩
 · cases he with
   | cell h=>
     cases h with
     | pure hp hv=>rename_i UL;exact absurd hp UL
     | sl hr bJ hg hl hv=>
       obtain⟨A1,φ1,O1,c1,k1,k2,k3,k4,k5,k6⟩:=gI h1 ht ht.lo w7 (.sl hr bJ hg hl hv) hU ah
       exact⟨A1,φ1,O1,c1,k1,k2,k3,k4,k5⟩
     | own hr bJ fY hg hl hp hv=>
       obtain⟨A1,φ1,O1,c1,k1,k2,k3,k4,k5,k6⟩:=gI h1 ht ht.lo w7 (.own hr bJ fY hg hl hp hv) hU ah
       exact⟨A1,φ1,O1,c1,k1,k2,k3,k4,k5⟩
   | agg hc h=>
     obtain⟨A1,φ1,O1,c1,k1,k2,k3,k4,k5,k6⟩:=pI h1 ht w7 h hU hd ah
     refine⟨A1,φ1,O1,_,k1,k2,k3,k4,?_⟩
     simp only[ak]
     exact⟨k6 hc,_,rfl,k5⟩
theorem tA (h1:bj Y μ1): ∀ {U:Nat→Prop} {A:Nat→Option Nat} {φ:Nat→Row} {O:Nat→Obj} {gs:List (Nat×Nat×Nat)} {cs:List V} {rs:List Nat} {vals:List Value} {r:Nat} {k:List V→Act} {p:V×St},
   eM Y μf μ1 U A φ O→(∀x ∈ gs,lC μ1 φ O x.1 x.2.1 x.2.2)→pG Y μ1 n cs rs vals→(∀j ∈ rs,n≤j→ ¬U j)→distinct rs=true→(dy bF r gs cs k).run C ⟨T,O⟩=some p→
   v7 Y μf μ1 C T (fun j=>U j∨(bF=true∧j ∈ rs)) A φ O k p fun φ' O' cI=>aj ⟨Y.toTrEnv,after Y μ1 n bF,Y.tok⟩ (quiet μ1 φ' O') cI vals:=by
 intro U A φ O gs cs rs vals r k p ht w7 he hU hd ah
 induction he generalizing U A φ O r k with
 | nil=>exact⟨A,φ,O,[],ah,ht.more fun j h=> .inl h,dt.refl _ _,fun _ h=>h,by simp[aj]⟩
 | @cons c rs rs' val cs vals h hs ih=>
   obtain⟨d1,d2,d3⟩:=iC hd
   simp only[dy] at ah
   obtain⟨A1,φ1,O1,c1,k1,k2,k3,k4,k5⟩:=nR h1 ht w7 h (fun j hj=>hU j (by simp[hj])) d1 ah
   obtain⟨A2,φ2,O2,WA,m1,m2,m3,m4,m5⟩:=ih k2 (fun x hx=> (w7 x hx).mono k3) (fun j hj hn hu=>by
     rcases hu with hu| ⟨_,hu⟩
     · exact hU j (by simp[hj]) hn hu
     · exact d3 j hj hu) d2 k1
   refine⟨A2,φ2,O2,c1::WA,m1,m2.more fun j hj=> ?_,k3.trans m3,fun r' h=>m4 r' (k4 r' h),?_⟩
   · rcases hj with(hj| ⟨e,hj⟩) | ⟨e,hj⟩
     · exact .inl hj
     · exact .inr ⟨e,by simp[hj]⟩
     · exact .inr ⟨e,by simp[hj]⟩
   · simp only[aj];exact⟨ak.mono (xz m3) k5,m5⟩
theorem pG.cr {cs:List V} {rs:List Nat} {vals:List Value} (h:pG Y μ1 n cs rs vals) (hp:V.aq cs=true):aj Y μ1 cs vals∧rs=[]:=by
 induction h with
 | nil=>simp[aj]
 | cons h hs ih=>
   simp only[V.aq,Bool.and_eq_true] at hp
   obtain⟨i1,i2⟩:=ih hp.2
   cases h with
   | cell h=>
     cases h with
     | pure yf hv=>simp only[aj];exact⟨⟨hv,i1⟩,by simpa using i2⟩
     | sl=>simp[V.aC] at hp
     | own=>simp[V.aC] at hp
   | @agg cs _ vals hc h=>
     have yf:V.aq cs=true:=by simpa [V.aC] using hp.1
     obtain⟨hv,e⟩:=h.cr yf
     subst e
     simp only[aj,ak]
     exact⟨⟨⟨gJ yf hc,_,rfl,hv⟩,i1⟩,by simpa using i2⟩
end
end Go.AM
namespace Go.AM
open Go Go.RowKit
mutual
theorem jr: ∀ {x:V},V.isScalar x=true→V.aC x=true
 | .bool _,_| .int ..,_| .float _,_| .str _,_| .nilp,_| .nilfn,_| .nili,_| .nils,_=>rfl
 | .any,hp| .own ..,hp| .msl ..,hp| .mptr ..,hp| .sl ..,hp| .ptr ..,hp| .lit ..,hp| .eptr ..,hp| .litk ..,hp| .epk ..,hp| .mp ..,hp| .it ..,hp| .mlit ..,hp| .fn ..,hp| .iface ..,hp=>by simp[V.isScalar] at hp
 | .agg cs,hp=>by simpa [V.aC] using eP (by simpa [V.isScalar] using hp)
 | .tuple cs,hp=>by simpa [V.aC] using eP (by simpa [V.isScalar] using hp)
theorem eP: ∀ {xs:List V},V.bn xs=true→V.aq xs=true
 | [],_=>rfl
 | x::xs,hp=>by
   simp only[V.bn,Bool.and_eq_true] at hp
   simp only[V.aq,Bool.and_eq_true]
   exact⟨jr hp.1,eP hp.2⟩
end
section
variable {Y:Ctx} {μf μ1:Mu} {n:Nat} {bF:Bool} {C:bb} {T:Nat→V}
def F3 (Y:Ctx) (μ:Mu) (n:Nat) (v:V) (rs:List Nat) (val:Value):Prop:=
 BC Y μ n v rs val∨ ∃vs us,v= .tuple vs∧val= .tuple us∧pG Y μ n vs rs us.toList
theorem dd.Q4 (h1:bj Y μ1) {T':Nat→V} {v0 v:V} {rs:List Nat} {val:Value} (hv:ak Y μ1 v0 val) (h:dd n ⟨T',μ1.O⟩ v0 v rs):F3 Y μ1 n v rs val:=by
 cases h with
 | one h=>exact .inl (nN h1 hv h)
 | many h=>
   simp only[ak] at hv
   obtain⟨us,rfl,hv⟩:=hv
   exact .inr ⟨_,us,rfl,rfl,mC h1 hv h⟩
theorem F3.pure {v:V} {rs:List Nat} {val:Value} (h:F3 Y μ1 n v rs val) (hp:V.aC v=true):ak Y μ1 v val:=by
 rcases h with h| ⟨vs,us,rfl,rfl,h⟩
 · have hs:pG Y μ1 n [v] (rs++[]) [val]:= .cons h .nil
   have:=(hs.cr (by simp[V.aq,hp])).1
   simp only[aj] at this
   exact this.1
 · simp only[ak]
   exact⟨us,rfl,(h.cr (by simpa [V.aC] using hp)).1⟩
theorem rL (h1:bj Y μ1) {U:Nat→Prop} {A:Nat→Option Nat} {φ:Nat→Row} {O:Nat→Obj} {gs:List (Nat×Nat×Nat)} {c v:V} {rs:List Nat} {val:Value} {r:Nat} {σ':St}
   (ht:eM Y μf μ1 U A φ O) (w7: ∀x ∈ gs,lC μ1 φ O x.1 x.2.1 x.2.2) (he:F3 Y μ1 n c rs val) (hU: ∀j ∈ rs,n≤j→ ¬U j) (hd:distinct rs=true) (ah: (cg bF r gs c .done).run C ⟨T,O⟩=some (v,σ')):
   σ'.T=T∧((V.aC c=true∧v=c∧σ'.O=O∧ak Y μ1 c val)∨ ∃A' φ',eM Y μf μ1 (fun j=>U j∨(bF=true∧j ∈ rs)) A' φ' σ'.O∧dt φ O φ' σ'.O∧(∀r,A r≠none→A' r≠none)∧ak ⟨Y.toTrEnv,after Y μ1 n bF,Y.tok⟩ (quiet μ1 φ' σ'.O) v val):=by
 unfold cg at ah
 split at ah
 · rename_i hp
   obtain⟨rfl,rfl⟩:=aS ah
   exact⟨rfl,.inl ⟨hp,rfl,rfl,he.pure hp⟩⟩
 · rename_i UL
   split at ah
   · rename_i vs
     rcases he with he| ⟨vs',us,e,rfl,he⟩
     · cases he with
       | cell h=>
         cases h with
         | pure hp hv=>exact absurd hp UL
     · injection e with e;subst e
       obtain⟨A1,φ1,O1,c1,k1,k2,k3,k4,k5⟩:=tA h1 ht w7 he hU hd ah
       obtain⟨rfl,rfl⟩:=aS k1
       refine⟨rfl,.inr ⟨A1,φ1,k2,k3,k4,?_⟩⟩
       simp only[ak]
       exact⟨us,rfl,k5⟩
   · rename_i Zl
     rcases he with he| ⟨vs',us,e,rfl,he⟩
     · obtain⟨A1,φ1,O1,c1,k1,k2,k3,k4,k5⟩:=nR h1 ht w7 he hU hd ah
       obtain⟨rfl,rfl⟩:=aS k1
       exact⟨rfl,.inr ⟨A1,φ1,k2,k3,k4,k5⟩⟩
     · exact absurd e (Zl vs')
end
section
variable {X:Ctx} {μ μ1:Mu} {r0:Nat}
theorem qB {as:List V} {vals:List Value} {rs:List Nat} {ws:List dH} (ho:bj X μ) (hp:jz X μ r0 0 as vals rs ws)
   (le:Le ⟨μ.w,eL μ.φ ws,(enter as).O⟩ μ1) (h1:bj ⟨X.toTrEnv,dF X μ rs ws,X.tok⟩ μ1) {Of:Nat→Obj} (hf:bj X ⟨μ.w,μ.φ,Of⟩) (G3: ∀w ∈ ws,Of w.r=μ.O w.r)
   {U:Nat→Prop} {A:Nat→Option Nat} {φ:Nat→Row} {O:Nat→Obj} (ht:eM ⟨X.toTrEnv,dF X μ rs ws,X.tok⟩ ⟨μ.w,μ.φ,Of⟩ μ1 U A φ O) (hm:dt μ.φ Of φ O) (hA: ∀w ∈ ws,A w.r≠none)
   (hT: ∀j,U j→((∀es,(μ1.O j).es=some es→V.bn es=true))∨ ∀b,Own X ⟨μ1.w,φ,O⟩ b→Own ⟨X.toTrEnv,dF X μ rs ws,X.tok⟩ μ1 b):
   Le ⟨μ.w,μ.φ,Of⟩ ⟨μ1.w,φ,O⟩∧bj X ⟨μ1.w,φ,O⟩:=by
 have G5: ∀b,(⟨μ.w,eL μ.φ ws,(enter as).O⟩:Mu).own b→ ∃w ∈ ws,(Of w.r).es.isSome=true∧(Of w.r).fz=false∧(μ.φ w.r).cap≠0∧(μ.φ w.r).cD=b:=fun b hb=>by
   obtain⟨i,r,k1,k2,k3,k4,k5⟩:=u6 hp hb
   have e:=G3 _ k1
   simp only at e
   exact⟨_,k1,by rw[e];exact k2,by rw[e];exact k3,k4,k5⟩
 have Q5: ∀j,(μ1.O j).es.isSome=true∧(μ1.O j).fz=false→(μ1.φ j).cap≠0→μ1.own (μ1.φ j).cD:=fun j hl hc=> ⟨j,hl.1,hl.2,hc,rfl⟩
 have kept: ∀r,A r=none→(Of r).es.isSome=true→(μ.φ r).cap≠0→(μ.φ r).cD<μ.w.heap.size∧μ1.w.heap[(μ.φ r).cD]? =μ.w.heap[(μ.φ r).cD]? ∧ ¬μ1.own (μ.φ r).cD:=fun r hr hs hc=>by
   obtain⟨es,he⟩:=Option.isSome_iff_exists.1 hs
   have bA: (μ.φ r).cD<μ.w.heap.size:=eY.cD (μ:=⟨μ.w,μ.φ,Of⟩) (hf.ok r es he) hc
   have kN: ¬ (⟨μ.w,eL μ.φ ws,(enter as).O⟩:Mu).own (μ.φ r).cD:=fun hb=>by
     obtain⟨w,k1,k2,k3,k4,k5⟩:=G5 _ hb
     have c9:w.r≠r:=fun e=>hA w k1 (e ▸ hr)
     exact hf.inj w.r r c9 k2 hs k4 hc k5
   obtain⟨l1,l2⟩:=le.cA _ bA kN
   exact⟨bA,l1,l2⟩
 have WB: ∀b,(⟨μ1.w,φ,O⟩:Mu).own b→(⟨μ.w,μ.φ,Of⟩:Mu).own b∨μ1.own b:=fun b hb=>by
   obtain⟨r,k1,k2,k3,k4⟩:=hb
   simp only at k1 k2 k3 k4
   cases e:A r with
   | none=>
     obtain⟨n1,n2⟩:=ht.yh r e
     rw[n1] at k1 k2
     rw[n2] at k3 k4
     exact .inl ⟨r,k1,k2,k3,k4⟩
   | some j=>
     obtain⟨t,_⟩:=ht.vZ r j e
     obtain⟨b1,b2⟩:=t.cD k3
     exact .inr ⟨j,t.live.1,t.live.2,b1,by rw[←b2];exact k4⟩
 have LE:Le ⟨μ.w,μ.φ,Of⟩ ⟨μ1.w,φ,O⟩:=by
   refine⟨le.size,fun b hb kN=> ?_,fun r=> (hm r).1,fun r e=> (hm r).2 e,le.os,le.output,le.tape,le.frozen⟩
   have WC: ¬ (⟨μ.w,eL μ.φ ws,(enter as).O⟩:Mu).own b:=fun nD=>by
     obtain⟨w,k1,k2,k3,k4,k5⟩:=G5 _ nD
     exact kN ⟨w.r,k2,k3,k4,k5⟩
   obtain⟨l1,l2⟩:=le.cA b hb WC
   exact⟨l1,fun h3=> (WB b h3).elim kN l2⟩
 refine⟨LE,fun r es bJ=> ?_,fun r1 r2 c9 e1 e2 e3 e4 e5=> ?_,fun r k1 k2 hb=> ?_,fun b hb=>Nat.lt_of_lt_of_le (ho.blt b hb) le.size⟩
 · simp only at bJ
   cases e:A r with
   | none=>
     obtain⟨n1,n2⟩:=ht.yh r e
     simp only at n1 n2
     rw[n1] at bJ
     exact eY.cA (r:=r) (r':=r) LE (hf.ok r es bJ) (by simp[n1]) (by simp[n2]) (fun hc=> (kept r e (by simp[bJ]) hc).2.1)
   | some j=>
     obtain⟨t,hu⟩:=ht.vZ r j e
     obtain⟨es',s0,s1,s2,s3,s4,s5⟩:=t.es
     rw[bJ] at s0;injection s0 with s0;subst s0
     left
     unfold jI
     simp only
     refine⟨s2,s3,s4,s5.imp id ?_⟩
     rintro⟨c,TT,vs,p1,p2,p3,p4⟩
     refine⟨c,TT,vs,p1,p2,?_,p4⟩
     rcases hT j hu with hs| hs
     · exact eW (X:=⟨X.toTrEnv,dF X μ rs ws,X.tok⟩) (μ:=μ1) (X':=X) (μ':=⟨μ1.w,φ,O⟩) rfl (t.sc hs _ bJ) p3
     · exact bL (X:=⟨X.toTrEnv,dF X μ rs ws,X.tok⟩) (μ:=μ1) (B:=X.GI) (μ':=⟨μ1.w,φ,O⟩) rfl hs s1 p3
 · simp only at e1 e2 e3 e4 e5
   cases a1:A r1 with
   | none=>
     obtain⟨n1,n2⟩:=ht.yh r1 a1
     simp only at n1 n2
     rw[n1] at e1;rw[n2] at e3 e5
     cases a2:A r2 with
     | none=>
       obtain⟨m1,m2⟩:=ht.yh r2 a2
       simp only at m1 m2
       rw[m1] at e2;rw[m2] at e4 e5
       exact hf.inj r1 r2 c9 e1 e2 e3 e4 e5
     | some j=>
       obtain⟨t,_⟩:=ht.vZ r2 j a2
       obtain⟨b1,b2⟩:=t.cD e4
       exact(kept r1 a1 e1 e3).2.2 (by rw[e5,b2];exact Q5 j t.live b1)
   | some j=>
     obtain⟨t,_⟩:=ht.vZ r1 j a1
     obtain⟨b1,b2⟩:=t.cD e3
     cases a2:A r2 with
     | none=>
       obtain⟨m1,m2⟩:=ht.yh r2 a2
       simp only at m1 m2
       rw[m1] at e2;rw[m2] at e4 e5
       exact(kept r2 a2 e2 e4).2.2 (by rw[←e5,b2];exact Q5 j t.live b1)
     | some j2=>
       obtain⟨t2,_⟩:=ht.vZ r2 j2 a2
       obtain⟨c1,c2⟩:=t2.cD e4
       refine h1.inj j j2 (fun e=>c9 (ht.inj r1 r2 j a1 (e ▸ a2))) t.live.1 t2.live.1 b1 c1 ?_
       rw[←b2,←c2];exact e5
 · simp only at k1 k2 hb
   cases a1:A r with
   | none=>
     obtain⟨n1,n2⟩:=ht.yh r a1
     simp only at n1 n2
     rw[n1] at k1;rw[n2] at k2 hb
     exact hf.qU r k1 k2 hb
   | some j=>
     obtain⟨t,_⟩:=ht.vZ r j a1
     obtain⟨b1,b2⟩:=t.cD k2
     exact h1.qU j t.live.1 b1 (.inl (b2 ▸ hb))
end
end Go.AM
namespace Go.AM
open Go Go.RowKit
section
variable {X:Ctx} {μ μ1:Mu} {r0:Nat} {C:bb} {T:Nat→V}
theorem BE {as:List V} {vals:List Value} {rs:List Nat} {ws:List dH} (ho:bj X μ) (hp:jz X μ r0 0 as vals rs ws) (G2:apart rs (ws.map (·.r))=true) (hd:distinct (ws.map (·.r))=true)
   (le:Le ⟨μ.w,eL μ.φ ws,(enter as).O⟩ μ1) (h1:bj ⟨X.toTrEnv,dF X μ rs ws,X.tok⟩ μ1) {res:fh} {refs:List Nat} {v0:V} {val:Value} {T':Nat→V} (hv:ak ⟨X.toTrEnv,dF X μ rs ws,X.tok⟩ μ1 v0 val)
   (WD:dd as.length ⟨T',μ1.O⟩ v0 res.val refs) (Zm:distinct refs=true) (DB:bP μ1.O 0 as=some res.outs) {bF:Bool} {r:Nat} {v:V} {σ':St}
   (ah: (if res.val.isScalar &&res.outs.all (fun o=>V.bn o.2) then cH ws res.outs fun gs=>cg bF r gs res.val .done else cj rs (cH ws res.outs fun gs=>cg bF r gs res.val .done)).run C ⟨T,μ.O⟩=some (v,σ')):
   σ'.T=T∧ ∃φ',ak X ⟨μ1.w,φ',σ'.O⟩ v val∧Le μ ⟨μ1.w,φ',σ'.O⟩∧bj X ⟨μ1.w,φ',σ'.O⟩:=by
 have hR:=WD.Q4 h1 hv
 have hi:=hp.inc
 have dI: ∀w ∈ ws,w.fresh=none→(μ1.O w.i).gen=0→μ1.φ w.i=μ.φ w.r:=fun w hw Q6 hg=>by
   have FP: ((enter as).O w.i).gen=0:=by
     rcases iP hp w.i with h| ⟨_,_,_,_,_,_,h,_⟩ | ⟨_,_,_,h,_⟩
     · rw[h];rfl
     · exact h
     · exact h
   obtain⟨e1,_⟩:=le.row w.i (by rw[hg];exact FP.symm)
   rw[e1]
   have:=gH (φ:=μ.φ) hi w hw
   rw[Q6] at this
   exact this
 have start: ∀ (Of:Nat→Obj) (S:Nat→Prop),eM ⟨X.toTrEnv,dF X μ rs ws,X.tok⟩ ⟨μ.w,μ.φ,Of⟩ μ1 (fun j=>j< 0∧S j) (fun _=>none) μ.φ Of:=fun Of S=>
   ⟨fun _ _=> ⟨rfl,rfl⟩,fun _ _ e=>by simp at e,fun _ _ _ e=>by simp at e⟩
 split at ah
 · rename_i XT
   simp only[Bool.and_eq_true] at XT
   obtain⟨qY,tZ⟩:=XT
   have hS: ∀w ∈ ws,∀es,(μ1.O w.i).es=some es→V.bn es=true:=fun w hw es he=>by
     obtain⟨g,es',k1,k2⟩:=DA hp DB w hw
     rw[he] at k1;injection k1 with k1;subst k1
     exact(List.all_eq_true.1 tZ) _ k2
   obtain⟨A,φ,O,gs,k1,k2,k3,k4,k5,k6⟩:=nQ (μf:=⟨μ.w,μ.φ,μ.O⟩) h1 dI rfl (fun _ _=>rfl) (S:=fun j=> ∀es,(μ1.O j).es=some es→V.bn es=true) hS hp DB (start μ.O _) (fun w hw=>hw) (fun _ _=>rfl) hd ah
   have lJ:=jr qY
   unfold cg at k1
   rw[if_pos lJ] at k1
   obtain⟨rfl,rfl⟩:=aS k1
   obtain⟨b1,b2⟩:=qB ho hp le h1 (Of:=μ.O) ho (fun _ _=>rfl) k2 k3 k4 (fun j hj=> .inl hj.2)
   exact⟨rfl,φ,lB (X:=⟨X.toTrEnv,dF X μ rs ws,X.tok⟩) (μ:=μ1) (X':=X) (μ':=⟨μ1.w,φ,O⟩) rfl qY (hR.pure lJ),b1,b2⟩
 · obtain⟨Of,f1,f2,f3,f4,f5⟩:=iA (X:=X) (w:=μ.w) (φ:=μ.φ) rs ho ah
   have G3: ∀w ∈ ws,Of w.r=μ.O w.r:=fun w hw=>f4 _ fun hr=>by
     have:=List.all_eq_true.1 G2 w.r (List.mem_map.2 ⟨w,hw,rfl⟩)
     simp[hr] at this
   obtain⟨A,φ,O,gs,k1,k2,k3,k4,k5,k6⟩:=nQ (μf:=⟨μ.w,μ.φ,Of⟩) h1 dI rfl G3 (S:=fun _=>True) (fun _ _=>trivial) hp DB (start Of _) (fun w hw=>hw) (fun _ _=>rfl) hd f1
   obtain⟨hT,lK⟩:=rL h1 k2 k6 hR (fun j _ hn hu=>by have:=hu.1;omega) Zm k1
   have Q7: ∀ {U:Nat→Prop} {A:Nat→Option Nat} {φ:Nat→Row} {O:Nat→Obj},eM ⟨X.toTrEnv,dF X μ rs ws,X.tok⟩ ⟨μ.w,μ.φ,Of⟩ μ1 U A φ O→(∀w ∈ ws,A w.r≠none)→(∀j,U j→bF=true∨j<as.length)→
       ∀b,Own X ⟨μ1.w,φ,O⟩ b→after ⟨X.toTrEnv,dF X μ rs ws,X.tok⟩ μ1 as.length bF b:=by
     intro U A φ O ht hA hU b hb
     rcases hb with⟨r',q1,q2,q3,q4⟩ | hb
     · simp only at q1 q2 q3 q4
       cases e:A r' with
       | none=>
         obtain⟨n1,n2⟩:=ht.yh r' e
         simp only at n1 n2
         rw[n1] at q1 q2;rw[n2] at q3 q4
         have QX:r' ∉ rs:=fun h=>by rw[f5 r' h] at q2;simp at q2
         have pS:r' ∉ ws.map (·.r):=fun h=>by
          obtain⟨w,hw,e'⟩:=List.mem_map.1 h
          exact hA w hw (by rw[e'];exact e)
         rw[f4 r' QX] at q1 q2
         exact .inl (.inr ⟨r',QX,pS,q1,q2,q3,q4⟩)
       | some j=>
         obtain⟨t,hu⟩:=ht.vZ r' j e
         obtain⟨b1,b2⟩:=t.cD q3
         exact .inr ⟨j,hU j hu,t.live.1,t.live.2,b1,by rw[←b2];exact q4⟩
     · exact .inl (.inl hb)
   refine⟨hT,?_⟩
   rcases lK with⟨lJ,rfl,hO,Zn⟩ | ⟨A',φ',m1,m2,m3,m4⟩
   · have gC:=Q7 k2 k4 (fun j hj=> .inr (by have:=hj.1;omega))
     have Ae: ∀b,Own X ⟨μ1.w,φ,O⟩ b→Own ⟨X.toTrEnv,dF X μ rs ws,X.tok⟩ μ1 b:=fun b hb=>iQ (φ:=φ) (O:=O) (.inr (gC b hb))
     obtain⟨b1,b2⟩:=qB ho hp le h1 (Of:=Of) f3 G3 k2 k3 k4 (fun j hj=> .inr Ae)
     rw[hO]
     exact⟨φ,dj (X:=⟨X.toTrEnv,dF X μ rs ws,X.tok⟩) (μ:=μ1) (B:=X.GI) (μ':=⟨μ1.w,φ,O⟩) rfl Ae lJ Zn,f2.trans b1,b2⟩
   · have G6: ∀w ∈ ws,A' w.r≠none:=fun w hw=>m3 _ (k4 w hw)
     have gC:=Q7 m1 G6 (fun j hj=>hj.elim (fun h=> .inr (by have:=h.1;omega)) fun h=> .inl h.1)
     have Ae: ∀b,Own X ⟨μ1.w,φ',σ'.O⟩ b→Own ⟨X.toTrEnv,dF X μ rs ws,X.tok⟩ μ1 b:=fun b hb=>iQ (φ:=φ') (O:=σ'.O) (.inr (gC b hb))
     obtain⟨b1,b2⟩:=qB ho hp le h1 (Of:=Of) f3 G3 m1 (k3.trans m2) G6 (fun j hj=> .inr Ae)
     refine⟨φ',weaken (X:=⟨X.toTrEnv,after ⟨X.toTrEnv,dF X μ rs ws,X.tok⟩ μ1 as.length bF,X.tok⟩) (μ:=quiet μ1 φ' σ'.O) (X':=X) (μ':=⟨μ1.w,φ',σ'.O⟩) rfl rfl rfl rfl (fun _=> ⟨rfl,rfl⟩) (fun b hb=> .inr (gC b hb)) m4,f2.trans b1,b2⟩
end
end Go.AM
namespace Go.AM
open Go Go.RowKit
section
variable {X:Ctx} {E:Env} {C:bb} {o:Oper} {a:Go.Act} {T:Nat→V} {μ:Mu} {v:V} {σ':St}
theorem Q8 {C:bb} {act:Act}: ∀ {σ σ':St} {v:V},act.run C σ=some (v,σ')→σ'.T=σ.T:=by
 induction act with
 | done u=>intro σ σ' v h;obtain⟨_,rfl⟩:=aS h;rfl
 | fail=>intro σ σ' v h;exact absurd h an
 | lE t k ih=>intro σ σ' v h;exact ih _ h
 | bR r k ih=>intro σ σ' v h;exact ih _ h
 | bC r o k ih=>intro σ σ' v h;have:=ih h;simpa using this
 | call f as k ih=>
   intro σ σ' v h
   simp only[Act.run] at h
   split at h
   · exact ih _ h
   · simp at h
theorem u7 {h:Rel X T a μ} (O:Nat→Obj): ∀ {xs:List Operand} {ys:List aP},pd X xs=some ys→aj X μ (ys.map (bc ⟨T,O⟩)) (xs.map a.eval)
 | [],ys,e=>by simp[pd] at e;subst e;simp[aj]
 | x::xs,ys,e=>by
   simp only[pd] at e
   split at e
   · rename_i y Xi h1 h2
     injection e with e;subst e
     simp only[List.map_cons,aj]
     exact⟨aO h h1 O,u7 (h:=h) O h2⟩
   · simp at e
theorem DC (  hC: ∀f F as res,X.jg F=some f→C f as=some res→cu X.toTrEnv F as res) {h:Hints} {dst:Nat} {c:Call} {nq:pP} (hr:Rel X T a μ) (ho:o.op= .call c) (aM:sM X h dst c=some nq) (yV:nq.gG=true)
   (ah: (ar E nq).run C ⟨T,μ.O⟩=some (v,σ')):σ'.T=T∧ ∀ (next:Go.Act→World→Prop) (Q:Go.Exit→Go.Act→World→Prop),
   (∀val w' φ',ak X ⟨w',φ',σ'.O⟩ v val→Le μ ⟨w',φ',σ'.O⟩→bj X ⟨w',φ',σ'.O⟩→next (a.put o.dst val) w')→o.wp X.P a μ.w next Q:=by
 unfold sM at aM
 split at aM
 · rename_i f WE
   split at aM
   · rename_i f' UJ hf has
     injection aM with aM;subst aM
     simp only[ar,bo] at ah
     split at ah
     · rename_i f0 caps MD
       rw[po] at ah
       have Q6:=aO hr hf μ.O
       rw[MD] at Q6
       simp only[ak] at Q6
       obtain⟨F,cv,hF,Lg,G1⟩:=Q6
       have jm:=(u7 (h:=hr) μ.O has).append G1
       simp only[qa] at ah
       obtain⟨as,rs,ws,h1,hp⟩:=ez hr.aX jm ah
       split at h1
       · rename_i uP
         simp only[Bool.and_eq_true] at uP
         obtain⟨G2,hd⟩:=uP
         simp only[Act.run] at h1
         split at h1
         · rename_i res lK
           have hS:=hC f0 F as res Lg lK
           obtain⟨e1,e2,e3⟩:=xx hr.aX hp G2 hd
           have hU:=hS (dF X μ rs ws) X.tok μ.w (eL μ.φ ws) _ e1 e2 e3
           have jJ: (execOp a.eval o).run X.P μ.w=(callFunc F (List.map a.eval c.args.toList++cv.toList).toArray).run X.P μ.w:=by
            have Zo: (c.args.map a.eval)++cv=(List.map a.eval c.args.toList++cv.toList).toArray:=by
             apply Array.toList_inj.1;simp
            simp only[execOp,ho,resolve,WE,hF,Deferred.ofValue,Sem.run_bind]
            rw[←Zo]
            simp[invoke,Sem.run]
           have key: ∀val w',(∃φ' T' O' v0 refs,Le ⟨μ.w,eL μ.φ ws,(enter as).O⟩ ⟨w',φ',O'⟩∧bj ⟨X.toTrEnv,dF X μ rs ws,X.tok⟩ ⟨w',φ',O'⟩∧
             ak ⟨X.toTrEnv,dF X μ rs ws,X.tok⟩ ⟨w',φ',O'⟩ v0 val∧dd as.length ⟨T',O'⟩ v0 res.val refs∧distinct refs=true∧bP O' 0 as=some res.outs)→
             σ'.T=T∧ ∃φ',ak X ⟨w',φ',σ'.O⟩ v val∧Le μ ⟨w',φ',σ'.O⟩∧bj X ⟨w',φ',σ'.O⟩:=by
            rintro val w' ⟨φ',T',O',v0,refs,k1,k2,k3,k4,k5,k6⟩
            exact BE hr.aX hp G2 hd k1 k2 k3 k4 k5 k6 h1
           have Zp:σ'.T=T:=Q8 h1
           refine⟨Zp,fun next Q hn=> ?_⟩
           unfold Oper.wp
           rw[jJ]
           exact hU.upon fun val w' hv=>by
            obtain⟨_,φ',q1,q2,q3⟩:=key val w' hv
            exact hn val w' φ' q1 q2 q3
         · simp at h1
       · exact absurd h1 an
     · exact absurd ah an
   · simp at aM
 · simp at aM
 · rename_i b hc
   exfalso
   revert aM
   split<;> (try split) <;> (try split) <;> (try split) <;>simp<;> (try (intro e;subst e;simp[pP.gG] at yV)) <;> (try (intros;subst_vars;simp[pP.gG] at yV)) <;> (try (rintro rfl;simp[pP.gG] at yV))
   all_goals (split at yV<;>first| (simp at yV;done) | (split at yV<;>simp at yV) | (rename_i h9;split at h9<;>simp at h9))
theorem v8 {op:BinOp} {t:TypeId} {x y:aP} {nq:pP} (h:zT X op t x y=some nq):nq.gG=false:=by
 unfold zT at h
 repeat' split at h
 all_goals first
  | (injection h with h;subst h;rfl)
  | (simp only[Option.map_eq_some_iff] at h;obtain⟨_,_,rfl⟩:=h;rfl)
  | (simp at h;done)
theorem oy {α:Type} {x:Option α} {f:α→pP} {nq:pP} (h:x.map f=some nq) (hf: ∀a,(f a).gG=false):nq.gG=false:=by
 cases x with
 | none=>simp at h
 | some a=>simp at h;subst h;exact hf a
theorem uf {h:Hints} {dst:Nat} {x:Operand} {nq:pP} (ht:sL X h dst x=some nq):nq.gG=false:=by
 unfold sL at ht
 split at ht
 · injection ht with ht;subst ht;rfl
 · split at ht
   · exact oy ht fun _=>rfl
   · exact oy ht fun _=>rfl
theorem xA {h:Hints} {dst:Nat} {op:Op} {nq:pP} (hn: ∀c,op≠ .call c) (aM:tX X h dst op=some nq):nq.gG=false:=by
 unfold tX at aM
 split at aM
 all_goals try exact absurd rfl (hn _)
 all_goals
  repeat' split at aM
  all_goals first
   | (injection aM with aM;subst aM;rfl)
   | (injection aM with aM;subst aM;split<;>rfl)
   | exact oy aM fun _=>rfl
   | exact v8 aM
   | exact uf aM
   | (exfalso;simp at aM;done)
theorem zf (lI: ∀t1 t2 k,X.iv t1=some k→X.iv t2=some k→t1=t2) (hC: ∀f F as res,X.jg F=some f→C f as=some res→cu X.toTrEnv F as res):my X E C:=by
 intro h dst o nq a T μ v σ' hr aM ah
 cases hc:nq.gG with
 | true=>
   cases du:o.op with
   | call c=>
     rw[du] at aM
     simp only[tX] at aM
     exact DC hC hr du aM hc ah
   | _=>
     have:=xA (by rw[du];simp) aM
     rw[this] at hc;simp at hc
 | false=>
   obtain⟨hT,val,w',φ',xB,h1,h2,h3⟩:=Df lI hr aM hc ah
   refine⟨hT,fun next Q hn=> ?_⟩
   unfold Oper.wp
   rcases xB with xB| ⟨xB,rfl⟩
   · rw[xB];exact hn _ _ _ h1 h2 h3
   · rw[xB];exact hn _ _ _ h1 h2 h3
end
end Go.AM
namespace Go.AM
open Go Go.RowKit
theorem kU: ∀l:List V,V.erases l=l.map V.erase
 | []=>rfl
 | v::vs=>by simp only[V.erases,List.map_cons,kU vs]
theorem dk (l:List V): (V.erases l).length=l.length:=by rw[kU];simp
theorem pJ (v:V):v.erase.aI=v.aI:=by cases v<;>rfl
theorem xC (v:V):v.erase.isAgg=v.isAgg:=by cases v<;>rfl
theorem js (v:V):v.erase.cX=v.cX:=by unfold V.cX;rw[xC,pJ]
theorem xD (v:V):v.erase.cells=V.erases v.cells:=by cases v<;>rfl
theorem ug (v:V) (sz:Nat):aN v.erase sz=aN v sz:=by unfold aN;rw[xD,dk,js]
theorem jt {p:V→Bool} (hp: ∀v,p v.erase=p v): ∀l:List V,(V.erases l).all p=l.all p
 | []=>rfl
 | v::vs=>by simp only[V.erases,List.all_cons,hp,jt hp vs]
mutual
theorem eo: ∀v:V,v.erase.aC=v.aC
 | .agg cs=>by simp only[V.erase,V.aC];exact cC cs
 | .tuple cs=>by simp only[V.erase,V.aC];exact cC cs
 | .mlit es=>by simp only[V.erase,V.aC];exact cC es
 | .fn f cs=>by simp only[V.erase,V.aC];exact cC cs
 | .iface t v=>by simp only[V.erase,V.aC];exact eo v
 | .litk .. | .epk .. | .lit .. | .own .. | .eptr .. | .msl .. | .mptr .. | .bool _| .int .. | .float _| .str _| .nilp| .nilfn| .nili| .nils| .sl .. | .ptr .. | .mp .. | .it .. | .any=>rfl
theorem cC: ∀l:List V,V.aq (V.erases l)=V.aq l
 | []=>rfl
 | v::vs=>by simp only[V.erases,V.aq,eo v,cC vs]
end
theorem jV (es:List V) (off len:Nat):aH (V.erases es) off len=V.erases (aH es off len):=by
 simp only[aH,kU,List.map_take,List.map_drop]
section
variable {X X':Ctx} {μ μ':Mu}
mutual
theorem ak.erase (hX:X'.toTrEnv=X.toTrEnv) (hw:μ'.w=μ.w) (hφ:μ'.φ=μ.φ) (hO: ∀r,(μ'.O r).gen=(μ.O r).gen∧(μ'.O r).sz=(μ.O r).sz) (ho: ∀b,Own X' μ' b→Own X μ b): ∀ {x:V} {v:Value},ak X μ x v→ak X' μ' x.erase v
 | .bool _,_,h| .int ..,_,h| .float _,_,h| .str _,_,h| .nilp,_,h| .nilfn,_,h| .nili,_,h| .nils,_,h=>by simpa [V.erase,ak] using h
 | .any,_,_=>by simp[V.erase,ak]
 | .own ..,_,h| .msl ..,_,h| .mptr ..,_,h=>by simp[ak] at h
 | .agg cs,_,h=>by
   simp only[V.erase,ak] at h ⊢
   obtain⟨h1,vs,rfl,h2⟩:=h
   exact⟨by rw[jt pJ];exact h1,vs,rfl,aj.erase hX hw hφ hO ho h2⟩
 | .tuple cs,_,h=>by
   simp only[V.erase,ak] at h ⊢
   obtain⟨vs,rfl,h2⟩:=h
   exact⟨vs,rfl,aj.erase hX hw hφ hO ho h2⟩
 | .fn f cs,_,h=>by
   simp only[V.erase,ak] at h ⊢
   obtain⟨F,cv,rfl,h1,h2⟩:=h
   exact⟨F,cv,rfl,by rw[hX];exact h1,aj.erase hX hw hφ hO ho h2⟩
 | .iface t x,_,h=>by
   simp only[V.erase,ak] at h ⊢
   obtain⟨F,y,rfl,h1,h2⟩:=h
   exact⟨F,y,rfl,by rw[hX];exact h1,ak.erase hX hw hφ hO ho h2⟩
 | .lit sz xs,_,h=>by
   simp only[V.erase,ak] at h ⊢
   obtain⟨h0,jy,a,cap,vs,rfl,h1,h2,h3⟩:=h
   refine⟨by rw[cC];exact h0,by rw[jt js];exact jy,a,cap,vs,by rw[dk],by rw[dk];exact h1,aj.erase hX hw hφ hO ho h2,h3.imp (fun h=>by rw[h];rfl) ?_⟩
   rintro⟨b,o,rfl,hb,hs,hr⟩
   exact⟨b,o,rfl,fun hh=>hb (ho b hh),by rw[hw];exact hs,by rw[hw];exact hr⟩
 | .litk sz xs,_,h=>by
   simp only[V.erase,ak] at h ⊢
   obtain⟨h0,jy,a,cap,vs,rfl,h1,h2,h3⟩:=h
   refine⟨by rw[cC];exact h0,by rw[jt js];exact jy,a,cap,vs,by rw[dk],by rw[dk];exact h1,aj.erase hX hw hφ hO ho h2,h3.imp (fun h=>by rw[h];rfl) ?_⟩
   rintro⟨rfl,hb,hs,hr⟩
   exact⟨_,_,rfl,fun hh=>hb (ho _ hh),by rw[hw];exact hs,by rw[hw];exact hr⟩
 | .sl r g off len,_,h=>by
   simp only[V.erase,ak] at h ⊢
   rw[hφ,(hO r).1,(hO r).2];exact h
 | .ptr r g idx off,_,h=>by
   simp only[V.erase,ak] at h ⊢
   rw[hφ,(hO r).1,(hO r).2];exact h
 | .eptr e off,_,h=>by
   simp only[V.erase,ak] at h ⊢
   obtain⟨h0,jy,b,o,sz,x,rfl,hb,hs,h1,hr⟩:=h
   exact⟨by rw[eo];exact h0,by rw[js];exact jy,b,o,sz,x,rfl,fun hh=>hb (ho b hh),by rw[hw];exact hs,ak.erase hX hw hφ hO ho h1,by rw[hw];exact hr⟩
 | .epk i sz e off,_,h=>by
   simp only[V.erase,ak] at h ⊢
   obtain⟨h0,jy,x,rfl,hb,hs,h1,hr⟩:=h
   exact⟨by rw[eo];exact h0,by rw[js];exact jy,_,X.tok.2+i*sz,sz,x,rfl,fun hh=>hb (ho _ hh),by rw[hw];exact hs,ak.erase hX hw hφ hO ho h1,by rw[hw];exact hr⟩
 | .mp r g,_,h| .it r g,_,h=>by
   simp only[V.erase,ak] at h ⊢
   rw[hφ,(hO r).1,(hO r).2];exact h
 | .mlit es,_,h=>by
   simp only[V.erase,ak] at h ⊢
   obtain⟨h0,h⟩:=h
   refine⟨by rw[cC];exact h0,h.imp (fun h=> ⟨by rw[h.1];rfl,h.2⟩) ?_⟩
   rintro⟨a,ents,clock,rfl,hb,hs,h1,h2⟩
   exact⟨a,ents,clock,rfl,fun hh=>hb (ho a hh),by rw[hw];exact hs,by rw[hw];exact h1,aj.erase hX hw hφ hO ho h2⟩
theorem aj.erase (hX:X'.toTrEnv=X.toTrEnv) (hw:μ'.w=μ.w) (hφ:μ'.φ=μ.φ) (hO: ∀r,(μ'.O r).gen=(μ.O r).gen∧(μ'.O r).sz=(μ.O r).sz) (ho: ∀b,Own X' μ' b→Own X μ b): ∀ {xs:List V} {vs:List Value},aj X μ xs vs→aj X' μ' (V.erases xs) vs
 | [],[],_=>by simp[V.erases,aj]
 | [],_::_,h=>by simp[aj] at h
 | _::_,[],h=>by simp[aj] at h
 | x::xs,v::vs,h=>by
   simp only[V.erases,aj] at h ⊢
   exact⟨ak.erase hX hw hφ hO ho h.1,aj.erase hX hw hφ hO ho h.2⟩
end
end
def di (O:Nat→Obj):Nat→Obj:=fun r=> {O r with es:=(O r).es.map V.erases}
section
variable {X:TrEnv} {B:Nat→Prop} {K K':Nat×Nat} {w:World} {φ:Nat→Row} {O:Nat→Obj}
theorem kV {b:Nat}: (Mu.mk w φ (di O)).own b↔(Mu.mk w φ O).own b:=by
 simp only[Mu.own,di,Option.isSome_map]
theorem u9 {x:V} {v:Value} (h:ak ⟨X,B,K⟩ ⟨w,φ,O⟩ x v):ak ⟨X,B,K'⟩ ⟨w,φ,di O⟩ x.erase v:=
 ak.erase (X:=⟨X,B,K⟩) (X':=⟨X,B,K'⟩) (μ:=⟨w,φ,O⟩) (μ':=⟨w,φ,di O⟩) rfl rfl rfl (fun _=> ⟨rfl,rfl⟩) (fun b hb=>hb.imp kV.1 id) h
theorem oz {xs:List V} {vs:List Value} (h:aj ⟨X,B,K⟩ ⟨w,φ,O⟩ xs vs):aj ⟨X,B,K'⟩ ⟨w,φ,di O⟩ (V.erases xs) vs:=
 aj.erase (X:=⟨X,B,K⟩) (X':=⟨X,B,K'⟩) (μ:=⟨w,φ,O⟩) (μ':=⟨w,φ,di O⟩) rfl rfl rfl (fun _=> ⟨rfl,rfl⟩) (fun b hb=>hb.imp kV.1 id) h
theorem ru (h:bj ⟨X,B,K⟩ ⟨w,φ,O⟩):bj ⟨X,B,K'⟩ ⟨w,φ,di O⟩ where
 ok:=fun r es bJ=>by
  simp only[di,Option.map_eq_some_iff] at bJ
  obtain⟨mX,Ll,rfl⟩:=bJ
  rcases h.ok r mX Ll with⟨h1,h2,h3,h4⟩ | ⟨h1,h2,ob,h3,h4⟩
  · refine .inl ⟨h1,by rw[dk];exact h2,by rw[jt (fun v=>ug v _)];exact h3,h4.imp id ?_⟩
    rintro⟨c,T,vs,k1,k2,k3,k4⟩
    exact⟨c,T,vs,k1,k2,oz k3,k4⟩
  · refine .inr ⟨h1,h2,ob,h3,?_⟩
    rcases h4 with⟨ents,clock,k1,k2,k3⟩ | ⟨s,pos,k1,k2⟩ | ⟨mo,since,Zq,k1,k2,k3⟩
    · exact .inl ⟨ents,clock,k1,oz k2,k3⟩
    · exact .inr (.inl ⟨s,pos,k1,by rw[k2];rfl⟩)
    · refine .inr (.inr ⟨mo,since,V.erases Zq,k1,by rw[k2];rfl,k3.imp (fun h=> ⟨h.1,by rw[h.2];rfl⟩) ?_⟩)
      rintro⟨m,ents,l1,l2,l3,l4,l5,l6⟩
      exact⟨m,ents,l1,fun hh=>l2 (hh.imp kV.1 id),l3,l4,l5,oz l6⟩
 inj:=fun r r' c9 h1 h2 h3 h4=>h.inj r r' c9 (by simpa [di] using h1) (by simpa [di] using h2) h3 h4
 qU:=fun r h1 h2=>h.qU r (by simpa [di] using h1) h2
 blt:=h.blt
theorem km {n:Nat} {T T':Nat→V} {c c':V} {rs:List Nat} (h:bH n ⟨T,O⟩ c=some (c',rs)):bH n ⟨T',di O⟩ c.erase=some (c'.erase,rs):=by
 have other: (∀r g off len,c≠ .sl r g off len)→c.aC=true→c'=c∧rs=[]→bH n ⟨T',di O⟩ c.erase=some (c'.erase,rs):=by
   rintro Q9 hp ⟨rfl,rfl⟩
   have yf:c'.erase.aC=true:=by rw[eo];exact hp
   cases c'<;>first| exact absurd rfl (Q9 _ _ _ _) | (simp only[V.erase] at yf ⊢;simp only[bH,yf,if_true])
 unfold bH at h
 split at h
 · rename_i r g off len
   simp only[V.erase,bH]
   split at h
   · rename_i es bJ
     have fe: (di O r).es=some (V.erases es):=by
       have: (O r).es=some es:=bJ
       simp only[di,this,Option.map_some]
     simp only[fe]
     split at h
     · rename_i hc
       have xY: (di O r).gen=g∧off+len≤(V.erases es).length∧(di O r).arr=true∧V.aq (aH (V.erases es) off len)=true:=
         ⟨hc.1,by rw[dk];exact hc.2.1,hc.2.2.1,by rw[jV,cC];exact hc.2.2.2⟩
       rw[if_pos xY]
       split at h
       · rename_i hr
         rw[if_pos hr]
         simp only[Option.some.injEq,Prod.mk.injEq] at h
         obtain⟨rfl,rfl⟩:=h;rfl
       · rename_i hr
         rw[if_neg hr]
         split at h
         · rename_i hf
           rw[if_pos (show (di O r).fz=true from hf)]
           simp only[Option.some.injEq,Prod.mk.injEq] at h
           obtain⟨rfl,rfl⟩:=h
           simp only[V.erase,jV]
           rfl
         · rename_i hf
           rw[if_neg (show ¬ (di O r).fz=true from hf)]
           simp only[Option.some.injEq,Prod.mk.injEq] at h
           obtain⟨rfl,rfl⟩:=h
           simp only[V.erase,jV]
           rfl
     · simp at h
   · simp at h
 · rename_i Q9
   split at h
   · rename_i hp
     simp only[Option.some.injEq,Prod.mk.injEq] at h
     obtain⟨rfl,rfl⟩:=h
     exact other (fun r g off len e=>Q9 r g off len e) hp ⟨rfl,rfl⟩
   · simp at h
theorem gh {n:Nat} {T T':Nat→V}: ∀ {cs cI:List V} {rs:List Nat},bx n ⟨T,O⟩ cs=some (cI,rs)→bx n ⟨T',di O⟩ (V.erases cs)=some (V.erases cI,rs)
 | [],cI,rs,h=>by
   simp only[bx,Option.some.injEq,Prod.mk.injEq] at h
   obtain⟨rfl,rfl⟩:=h;rfl
 | c::cs,cI,rs,h=>by
   simp only[bx] at h
   split at h
   · rename_i c1 r1 Mp Lj h1 h2
     simp only[Option.some.injEq,Prod.mk.injEq] at h
     obtain⟨rfl,rfl⟩:=h
     simp only[V.erases,bx,km (T':=T') h1,gh h2]
   · simp at h
theorem nS {n:Nat} {T T':Nat→V} {v v':V} {rs:List Nat} (h:cp n ⟨T,O⟩ v=some (v',rs)):cp n ⟨T',di O⟩ v.erase=some (v'.erase,rs):=by
 unfold cp at h
 split at h
 · rename_i hp
   simp only[Option.some.injEq,Prod.mk.injEq] at h
   obtain⟨rfl,rfl⟩:=h
   simp only[cp,eo,hp,if_true]
 · rename_i hp
   have yf: ¬v.erase.aC=true:=by rw[eo];exact hp
   unfold cp
   rw[if_neg yf]
   split at h
   · rename_i cs
     split at h
     · rename_i Mp Lj h1
       simp only[Option.some.injEq,Prod.mk.injEq] at h
       obtain⟨rfl,rfl⟩:=h
       simp only[V.erase,gh (T':=T') h1]
     · simp at h
   · rename_i f cs
     split at h
     · rename_i Mp Lj h1
       split at h
       · rename_i hc
         simp only[Option.some.injEq,Prod.mk.injEq] at h
         obtain⟨rfl,rfl⟩:=h
         simp only[V.erase,gh (T':=T') h1,cC,hc,if_true]
       · simp at h
     · simp at h
   · rename_i h1 h2
     have:=km (T':=T') h
     cases v<;>first| exact absurd rfl (h1 _) | exact absurd rfl (h2 _ _) | exact this
theorem mG {n:Nat} {T T':Nat→V}: ∀ {cs cI:List V} {rs:List Nat},cb n ⟨T,O⟩ cs=some (cI,rs)→cb n ⟨T',di O⟩ (V.erases cs)=some (V.erases cI,rs)
 | [],cI,rs,h=>by
   simp only[cb,Option.some.injEq,Prod.mk.injEq] at h
   obtain⟨rfl,rfl⟩:=h;rfl
 | c::cs,cI,rs,h=>by
   simp only[cb] at h
   split at h
   · rename_i c1 r1 Mp Lj h1 h2
     simp only[Option.some.injEq,Prod.mk.injEq] at h
     obtain⟨rfl,rfl⟩:=h
     simp only[V.erases,cb,nS (T':=T') h1,mG h2]
   · simp at h
theorem dd.erase {n:Nat} {T T':Nat→V} {v0 v:V} {rs:List Nat} (h:dd n ⟨T,O⟩ v0 v rs):dd n ⟨T',di O⟩ v0.erase v.erase rs:=by
 cases h with
 | one h=>exact .one (nS h)
 | many h=>simp only[V.erase];exact .many (mG h)
end
theorem zg {v:V} (h:v.aC=true): (sq v).aC=true:=by
 unfold sq;split
 · rfl
 · exact h
theorem pK (v:V): (sq v).aI=v.aI:=by
 unfold sq;split<;>rfl
section
variable {X:TrEnv} {B:Nat→Prop} {K:Nat×Nat} {μ:Mu}
theorem BF (c:Nat) {x:V} {v:Value} (hx: ∀K,ak ⟨X,B,K⟩ μ x v): ∃K,ak ⟨X,B,K⟩ μ (wE c x) v:=by
 unfold wE
 split
 · rename_i cs
   by_cases hc: ∃sz xs,cs[c]? =some (.lit sz xs)∧xs≠[]
   · obtain⟨sz,xs,c7,c9⟩:=hc
     obtain⟨h1,vs,rfl,h2⟩:cs.all V.aI=true∧ ∃vs,v= .agg vs∧aj ⟨X,B,(0,0)⟩ μ cs vs.toList:=by have:=hx (0,0);simpa only[ak] using this
     obtain⟨u,hu,bQ⟩:=h2.get c7
     simp only[ak] at bQ
     obtain⟨k0,Mq,a,cap,us,rfl,k1,k2,k3⟩:=bQ
     obtain⟨b,o,rfl,k4,k5,k6⟩:=k3.resolve_left c9
     refine⟨(b,o),?_⟩
     have yL:aj ⟨X,B,(b,o)⟩ μ cs vs.toList:=by
       have:=hx (b,o)
       simp only[ak] at this
       obtain⟨_,vs',e,h⟩:=this
       injection e with e;subst e;exact h
     simp only[ak]
     refine⟨?_,vs,rfl,?_⟩
     · rw[List.all_eq_true] at h1 ⊢
       intro y hy
       obtain⟨i,hi⟩:=List.mem_iff_getElem?.1 hy
       rw[List.getElem?_modify,Option.map_eq_map,Option.map_eq_some_iff] at hi
       obtain⟨z,hz,rfl⟩:=hi
       have Ec:=h1 z (List.mem_of_getElem? hz)
       split
       · rw[pK];exact Ec
       · exact Ec
     · refine aj.sP (by rw[List.length_modify];exact yL.length) fun i y u' hy yH=> ?_
       rw[List.getElem?_modify,Option.map_eq_map,Option.map_eq_some_iff] at hy
       obtain⟨z,hz,rfl⟩:=hy
       obtain⟨u2,F4,pS⟩:=yL.get hz
       rw[yH] at F4;injection F4 with F4;subst F4
       by_cases GO:c=i
       · subst GO
         rw[if_pos rfl]
         rw[c7] at hz;injection hz with hz;subst hz
         rw[hu] at yH;injection yH with yH;subst yH
         simp only[sq,ak]
         simp only[ak] at pS
         obtain⟨_,_,a',A8,D7,e,_,m2,m3⟩:=pS
         injection e with e1 e2 e3
         subst e1;subst e3
         refine⟨k0,Mq,_,cap,D7,rfl,k1,m2,.inr ⟨rfl,k4,k5,?_⟩⟩
         rcases m3 with m3| ⟨b',o',e,_,_,m⟩
         · exact absurd m3 c9
         · simp only[Option.some.injEq,Addr.mk.injEq,and_true] at e
           obtain⟨rfl,rfl⟩:=e
           exact m
       · rw[if_neg GO];exact pS
   · refine⟨(0,0),?_⟩
     have h0:=hx (0,0)
     simp only[ak] at h0 ⊢
     obtain⟨h1,vs,rfl,h2⟩:=h0
     refine⟨?_,vs,rfl,?_⟩
     · rw[List.all_eq_true] at h1 ⊢
       intro y hy
       obtain⟨i,hi⟩:=List.mem_iff_getElem?.1 hy
       rw[List.getElem?_modify,Option.map_eq_map,Option.map_eq_some_iff] at hi
       obtain⟨z,hz,rfl⟩:=hi
       have Ec:=h1 z (List.mem_of_getElem? hz)
       split
       · rw[pK];exact Ec
       · exact Ec
     · refine aj.sP (by rw[List.length_modify];exact h2.length) fun i y u' hy yH=> ?_
       rw[List.getElem?_modify,Option.map_eq_map,Option.map_eq_some_iff] at hy
       obtain⟨z,hz,rfl⟩:=hy
       obtain⟨u2,F4,pS⟩:=h2.get hz
       rw[yH] at F4;injection F4 with F4;subst F4
       by_cases GO:c=i
       · subst GO
         rw[if_pos rfl]
         unfold sq
         split
         · rename_i sz xs
           have zx:xs=[]:=Classical.byContradiction fun c9=>hc ⟨sz,xs,hz,c9⟩
           subst zx
           simp only[ak] at pS ⊢
           obtain⟨k0,Mq,a,cap,us,rfl,k1,k2,_⟩:=pS
           exact⟨k0,Mq,a,cap,us,rfl,k1,k2,.inl trivial⟩
         · exact pS
       · rw[if_neg GO];exact pS
 · exact⟨(0,0),hx (0,0)⟩
theorem ft (p:Nat×Nat) (args:List V): (db p args).length=args.length:=by simp[db,dk]
theorem uh {p:Nat×Nat} {args:List V} (h:V.aq args=true):V.aq (db p args)=true:=by
 refine nV fun x hx=> ?_
 obtain⟨i,hi⟩:=List.mem_iff_getElem?.1 hx
 have he:V.aq (V.erases args)=true:=by rw[cC];exact h
 rw[db,List.getElem?_modify,Option.map_eq_map,Option.map_eq_some_iff] at hi
 obtain⟨z,hz,rfl⟩:=hi
 have Ec:=gN he (List.mem_of_getElem? hz)
 split
 · unfold wE
   split
   · rename_i cs
     simp only[V.aC] at Ec ⊢
     refine nV fun y hy=> ?_
     obtain⟨j,hj⟩:=List.mem_iff_getElem?.1 hy
     rw[List.getElem?_modify,Option.map_eq_map,Option.map_eq_some_iff] at hj
     obtain⟨u,hu,rfl⟩:=hj
     have yH:=gN Ec (List.mem_of_getElem? hu)
     split
     · exact zg yH
     · exact yH
   · exact Ec
 · exact Ec
theorem va {F:FuncId} {p:Nat×Nat} {args:List V} {res:fh} (hp:V.aq args=true) (h:cu X F (db p args) res):cu X F args ⟨res.val.erase,[]⟩:=by
 intro B K w φ0 vals B2 hv ho
 have XU:=uh (p:=p) hp
 have hO: (enter args).O=fun _=>bD:=by rw[fu hp]
 have WG: (enter (db p args)).O=fun _=>bD:=by rw[fu XU]
 have hT: ∀t a,args[t]? =some a→(enter args).T t=a:=fun t a ha=>by rw[fu hp];simp[List.getD,ha]
 have Wm: ∀t a,(db p args)[t]? =some a→(enter (db p args)).T t=a:=fun t a ha=>by rw[fu XU];simp[List.getD,ha]
 have each: ∀K' t (x:V) v,(V.erases args)[t]? =some x→vals[t]? =some v→ak ⟨X,B,K'⟩ ⟨w,φ0,fun _=>bD⟩ x v:=fun K' t x v hx ye=>by
   rw[kU,List.getElem?_map,Option.map_eq_some_iff] at hx
   obtain⟨y,hy,rfl⟩:=hx
   have:=hv t v ye
   rw[hT t y hy,hO] at this
   have:=u9 (K':=K') this
   exact this
 obtain⟨K',hK⟩: ∃K',∀x v,(V.erases args)[p.1]? =some x→vals[p.1]? =some v→ak ⟨X,B,K'⟩ ⟨w,φ0,fun _=>bD⟩ (wE p.2 x) v:=by
   cases hx: (V.erases args)[p.1]? with
   | none=>exact⟨(0,0),fun x v h1=>by simp at h1⟩
   | some x=>
     cases hu:vals[p.1]? with
     | none=>exact⟨(0,0),fun x v _ h1=>by simp at h1⟩
     | some u=>
       obtain⟨K',hK⟩:=BF (X:=X) (B:=B) (μ:=⟨w,φ0,fun _=>bD⟩) p.2 (fun K'=>each K' p.1 x u hx hu)
       exact⟨K',fun y v h1 h2=>by injection h1 with h1;injection h2 with h2;subst h1;subst h2;exact hK⟩
 have hU:=h B K' w φ0 vals (by rw[ft];exact B2) (fun t v ye=>by
   rw[WG]
   have bA:t< (db p args).length:=by rw[ft,←B2];exact(List.getElem?_eq_some_iff.1 ye).1
   obtain⟨y,qx⟩: ∃y,(db p args)[t]? =some y:=⟨_,List.getElem?_eq_getElem bA⟩
   rw[Wm t _ qx]
   have Lm:=qx
   simp only[db] at Lm
   rw[List.getElem?_modify,Option.map_eq_map,Option.map_eq_some_iff] at Lm
   obtain⟨z,hz,uM⟩:=Lm
   rw[←uM]
   split
   · rename_i e
     subst e
     exact hK z v hz ye
   · exact each K' t z v hz ye) (by
   rw[WG]
   rw[hO] at ho
   have:=ru (K':=K') ho
   exact this)
 rw[WG] at hU
 rw[hO]
 have post: ∀val w',(∃φ' T' O' v0 refs,Le ⟨w,φ0,fun _=>bD⟩ ⟨w',φ',O'⟩∧bj ⟨X,B,K'⟩ ⟨w',φ',O'⟩∧
     ak ⟨X,B,K'⟩ ⟨w',φ',O'⟩ v0 val∧dd (db p args).length ⟨T',O'⟩ v0 res.val refs∧distinct refs=true∧bP O' 0 (db p args)=some res.outs)→
     ∃φ' T' O' v0 refs,Le ⟨w,φ0,fun _=>bD⟩ ⟨w',φ',O'⟩∧bj ⟨X,B,K⟩ ⟨w',φ',O'⟩∧
     ak ⟨X,B,K⟩ ⟨w',φ',O'⟩ v0 val∧dd args.length ⟨T',O'⟩ v0 (fh.mk res.val.erase []).val refs∧distinct refs=true∧bP O' 0 args=some (fh.mk res.val.erase []).outs:=by
   rintro val w' ⟨φ',T',O',v0,refs,k1,k2,k3,k4,k5,k6⟩
   rw[ft] at k4
   refine⟨φ',T',di O',v0.erase,refs,?_,ru k2,u9 k3,k4.erase,k5,fA hp⟩
   exact⟨k1.size,fun b hb hn=> ⟨(k1.cA b hb hn).1,fun h'=> (k1.cA b hb hn).2 (kV.1 h')⟩,k1.gen,k1.row,k1.os,k1.output,k1.tape,k1.frozen⟩
 unfold ud at hU ⊢
 split at hU
 · exact post _ _ hU
 · refine Calls.mono hU fun e w' he=> ?_
   cases e with
   | returned v=>exact post _ _ he
   | panicked c=>exact he.elim
   | outgrown=>exact he.elim
 · exact hU.elim
end
end Go.AM
namespace Go.AM
open Go Go.RowKit
structure tB (X:TrEnv) (E:Env):Prop where
 inj: ∀t1 t2 k,X.iv t1=some k→X.iv t2=some k→t1=t2
 mixed:X.P.follows .mixedOrders=true
 fn: ∀f af F,E.fn f=some af→X.jg F=some f→ ∃fn h c,X.P.funcs[F]? =some fn∧(fn.name== "runtime.NumGoroutine")=false∧fn.body=some c∧aw X h fn=some af∧af.nparams≤fn.ntmps
 ext: ∀f as res F,E.ext f as=some res→X.jg F=some f→cu X F as res
 iter: ∀g F caps xs,E.iter g caps=some xs→X.jg F=some g→ ∀ (B:Nat→Prop) (K:Nat×Nat) (μ:Mu) (lb:Array Value),aj ⟨X,B,K⟩ μ caps lb.toList→bj ⟨X,B,K⟩ μ→r5 ⟨X,B,K⟩ μ F lb xs
 hyb: ∀f h F,E.hyb f=some h→X.jg F=some f→ ∀C:bb,(∀f F as res,X.jg F=some f→C f as=some res→cu X F as res)→ ∀as res,h C as=some res→cu X F as res
section
variable {X:Ctx} {T:Nat→V} {a:Go.Act} {μ:Mu}
theorem wa (  hr:Rel X T a μ) {r:ResultVar} {r':oN} (aM:pg X r=some r') {v:V} (h:er ⟨T,μ.O⟩ r'=some v):
   ∃val,((match r with| .tmp t=>pure (a.tmps.getD t undef) | .cell c t=>do loadVar t (←asAddr (a.tmps.getD c undef)):Sem Value)).run X.P μ.w= .ok val μ.w∧ak X μ v val:=by
 cases r with
 | tmp t=>
   simp[pg] at aM;subst aM
   simp only[er,Option.some.injEq] at h;subst h
   exact⟨_,rfl,hr.tmps t⟩
 | cell c t=>
   simp only[pg] at aM
   split at aM
   · rename_i g sz hg hn
     injection aM with aM;subst aM
     simp only[er] at h
     split at h
     · rename_i r gn idx off e
       split at h
       · rename_i es bJ
         split at h
         · rename_i cm
           split at h
           · rename_i el qO
             have hx:=hr.tmps c
             rw[e] at hx
             simp only[ak] at hx
             obtain⟨p,GM,_,cB⟩:=hx
             obtain⟨xw,cB⟩:=cB cm
             obtain⟨xv,qZ,_,jk⟩:=wY hr.aX bJ qO xw
             obtain⟨val,hl,bQ⟩:=na qZ h hg hn jk
             refine⟨val,?_,bQ⟩
             rw[cB] at GM
             show (do loadVar t (←asAddr (a.tmps.getD c undef)):Sem Value).run X.P μ.w=_
             rw[GM]
             simpa [Sem.run_bind,asAddr,Sem.run] using hl
           · simp at h
         · simp at h
       · simp at h
     · simp at h
   · simp at aM
theorem pL (hr:Rel X T a μ): ∀ {rs:List ResultVar} {rs':List oN} {vs:List V},iN X rs=some rs'→cO ⟨T,μ.O⟩ rs'=some vs→
   ∃vals,(rs.mapM (fun r=> (match r with| .tmp t=>pure (a.tmps.getD t undef) | .cell c t=>do loadVar t (←asAddr (a.tmps.getD c undef)):Sem Value))).run X.P μ.w= .ok vals μ.w∧aj X μ vs vals
 | [],rs',vs,h1,h2=>by
   simp[iN] at h1;subst h1
   simp[cO] at h2;subst h2
   exact⟨[],by simp[Sem.run],by simp[aj]⟩
 | r::rs,rs',vs,h1,h2=>by
   simp only[iN] at h1
   split at h1
   · rename_i r1 Lj k1 k2
     injection h1 with h1;subst h1
     simp only[cO] at h2
     split at h2
     · rename_i v Zr m1 m2
       injection h2 with h2;subst h2
       obtain⟨val,n1,n2⟩:=wa hr k1 m1
       obtain⟨vals,p1,p2⟩:=pL hr k2 m2
       refine⟨val::vals,?_,by simp only[aj];exact⟨n2,p2⟩⟩
       simp only[List.mapM_cons,Sem.run_bind,n1,Result.andThen,p1]
       rfl
     · simp at h2
   · simp at h1
theorem ui (hr:Rel X T a μ) {fn:Func} {rs':List oN} {vs:List V} (h1:iN X fn.results.toList=some rs') (h2:cO ⟨T,μ.O⟩ rs'=some vs):
  ∃vals,(results fn a.tmps).run X.P μ.w= .ok (match vals with| [v]=>v| vs=> .tuple vs.toArray) μ.w∧aj X μ vs vals:=by
 obtain⟨vals,k1,k2⟩:=pL hr h1 h2
 refine⟨vals,?_,k2⟩
 have hm: (fn.results.mapM (fun r=> (match r with| .tmp t=>pure (a.tmps.getD t undef) | .cell c t=>do loadVar t (←asAddr (a.tmps.getD c undef)):Sem Value))).run X.P μ.w= .ok vals.toArray μ.w:=by
  rw[Array.mapM_eq_mapM_toList]
  show Sem.run X.P (_ >>=fun l=>pure (List.toArray l)) _=_
  rw[Sem.run_bind,k1]
  rfl
 unfold results
 rw[Sem.run_bind]
 refine(congrArg (fun r=>Result.andThen r (fun vs w'=>Sem.run X.P (pure (if h:vs.size=1 then vs[0] else Value.tuple vs)) w')) hm).trans ?_
 match vals with
 | []=>rfl
 | [v]=>rfl
 | _::_::_=>rfl
end
section
variable {X:TrEnv} {E:Env}
theorem BG {  af:aB} {args:List V} {σ:St} {res:fh} (h:leave af args σ=some res):
   ∃vs,cO σ af.results=some vs∧bP σ.O 0 args=some res.outs∧ ∃refs,distinct refs=true∧
     ∀v0,v0=(match vs with| [v]=>v| vs=> .tuple vs)→dd args.length σ v0 res.val refs:=by
 unfold leave at h
 split at h
 · rename_i vs outs h1 h2
   refine⟨vs,h1,?_⟩
   split at h
   · rename_i v rs hx
     split at h
     · rename_i hd
       injection h with h;subst h
       refine⟨h2,rs,hd,?_⟩
       rintro v0 rfl
       match vs,hx with
       | [u],hx=>
         simp only[cb] at hx
         split at hx
         · rename_i c' r cI rs' k1 k2
           simp only[Option.some.injEq,Prod.mk.injEq,List.cons.injEq] at hx k2
           obtain⟨⟨rfl,rfl⟩,rfl⟩:=hx
           obtain⟨_,rfl⟩:=k2
           simpa using dd.one k1
         · simp at hx
       | [],hx=>simp[cb] at hx
       | _::_::_,hx=>
         simp only[cb] at hx
         split at hx
         · rename_i k1 k2
           split at k2
           · simp only[Option.some.injEq,Prod.mk.injEq] at hx k2
             obtain⟨e1,_⟩:=k2
             subst e1
             simp at hx
           · simp at k2
         · simp at hx
     · simp at h
   · rename_i vs' rs Q9 hx
     split at h
     · rename_i hd
       injection h with h;subst h
       refine⟨h2,rs,hd,?_⟩
       rintro v0 rfl
       match vs,hx with
       | [u],hx=>
         exfalso
         simp only[cb] at hx
         split at hx
         · rename_i c' r cI rs' k1 k2
           simp only[Option.some.injEq,Prod.mk.injEq] at hx k2
           obtain⟨rfl,rfl⟩:=hx
           obtain⟨rfl,_⟩:=k2
           exact Q9 _ rfl
         · simp at hx
       | [],hx=>exact .many hx
       | _::_::_,hx=>exact .many hx
     · simp at h
   · simp at h
 · simp at h
theorem rv {P:Program} {fn:Func} {tmps:Array Value} {R:Ending→World→Prop} {n:Fp} (Pw:World→Prop) (uQ: ∀w D,n.fl≤D→w.heap[D]? =some (.deferred (some []))→Pw w→Pw (w.putObj D (.deferred none)))
   (hR: ∀w,Pw w→ ∃v,(results fn tmps).run P w= .ok v w∧R (.returned v) w) {ds:List Deferred} {w:World} (hm:Marks n w ds) (hw:Pw w):LeavesInM (Fr none) 0 P fn tmps R ds .returning w:=by
 obtain⟨_,Ds,rfl,Eb,hDs⟩:=hm
 revert w
 induction Ds with
 | nil=>intro w hw _ _;exact hR w hw
 | cons D Ds ih=>
   intro w hw hf hm
   obtain⟨h1,h2⟩:=hm D (by simp)
   rw[List.nodup_cons] at Eb
   refine⟨by simp,.inl ⟨D,w.putObj D (.deferred none),rfl,run_takeDeferred h2,?_⟩⟩
   refine ih Eb.2 (uQ w D h1 h2 hw) ⟨by simpa [World.putObj] using hf.1,fun l hl=> ?_⟩ fun D' WH=> ⟨(hm D' (by simp[WH])).1,?_⟩
   · obtain⟨L,k⟩:=hf.2 l hl
     exact⟨L,(World.putObj_heap_other (fun e=>by rw[e,h2] at k;simp at k)).trans k⟩
   · rw[World.putObj_heap_other (fun e=>Eb.1 (by rw[←e];exact WH))]
     exact(hm D' (by simp[WH])).2
theorem kW (hE:tB X E) {n:Nat} (hH: ∀m,m<n→ ∀ (B:Nat→Prop) (K:Nat×Nat),my ⟨X,B,K⟩ E (dL E (exec E m))) {f:Nat} {af:aB} {F:FuncId} (hf:E.fn f=some af) (hF:X.jg F=some f)
   {args:List V} {res:fh} {e:aY} {σ:St} (hlen:args.length=af.nparams) (hx:exec E n af.body (enter args)=some (e,σ)) (he:e= .normal∨e= .ret) (hl:leave af args σ=some res):cu X F args res:=by
 obtain⟨fn,h,c,pQ,lD,ib,aM,hle⟩:=hE.fn f af F hf hF
 intro B K w φ0 vals B2 hv ho
 have Ln: (callFunc F vals.toArray).run X.P w= .ok (.enter F vals.toArray) w:=by
   have Lo: (fn.name== "runtime.NumGoroutine")=false:=lD
   simp[callFunc,Sem.run_bind,program,Sem.run,pQ,Lo,ib]
   simpa using lD
 rw[Ln]
 unfold aw at aM
 rw[ib] at aM
 simp only at aM
 split at aM
 · rename_i ac rs hc We
   injection aM with aM
   subst aM
   simp only[ud]
   refine(callsIn_wide (n:=0)).1 (callsIn_of_wp_marks (F:=Fr none) pQ ib trivial ?_ rfl)
   have cE:vals.toArray.size≤fn.ntmps:=by simp[B2,hlen];exact hle
   have ki:iE ⟨X,B,K⟩ ⟨w,φ0,(enter args).O⟩ ⟨fn.ntmps,w.heap.size,none⟩ (enter args) {tmps:=vals.toArray++Array.replicate (fn.ntmps - vals.toArray.size) undef,defers:=[]} w:=by
    refine⟨Marks.nil (Nat.le_refl _) (by simp),by simp at cE ⊢;omega,φ0,⟨fun t=> ?_,ho⟩,Le.refl _⟩
    by_cases ht:t<vals.length
    · have e1: (vals.toArray++Array.replicate (fn.ntmps - vals.toArray.size) undef).getD t undef=vals[t]:=by
       simp[Array.getElem?_append,ht]
      rw[e1]
      exact hv t _ (List.getElem?_eq_getElem ht)
    · have e1: (vals.toArray++Array.replicate (fn.ntmps - vals.toArray.size) undef).getD t undef=undef:=by
       simp[Array.getElem?_append,ht,Array.getElem?_replicate]
       split<;>rfl
      have e2: (enter args).T t=dp:=by
       have:args[t]? =none:=List.getElem?_eq_none (by omega)
       simp[enter,this]
      rw[e1,e2]
      exact qy
   refine wpIn_mono (zb (X:=⟨X,B,K⟩) hE.mixed (fun g F caps xs h1 h2 μ lb h3 h4=>hE.iter g F caps xs h1 h2 B K μ lb h3 h4) (h:={h with n:=fn.ntmps}) n (fun m hm=>hH m hm B K) rfl c ac _ _ e _ w hc hx ki) fun ex a' w' hq=> ?_
   obtain⟨rfl,iK,_,φ',hr,pE⟩:=hq
   obtain⟨vs,l1,l2,refs,l3,l4⟩:=BG hl
   have fin:LeavesInM (Fr none) 0 X.P fn a'.tmps (fun
      | .returned val,w'=> ∃φ' T' O' v0 refs,Le ⟨w,φ0,(enter args).O⟩ ⟨w',φ',O'⟩∧bj ⟨X,B,K⟩ ⟨w',φ',O'⟩∧ak ⟨X,B,K⟩ ⟨w',φ',O'⟩ v0 val∧dd args.length ⟨T',O'⟩ v0 res.val refs∧distinct refs=true∧bP O' 0 args=some res.outs
      | _,_=>False) a'.defers .returning w':=by
    refine rv (fun w'=>Rel ⟨X,B,K⟩ σ.T a' ⟨w',φ',σ.O⟩∧Le ⟨w,φ0,(enter args).O⟩ ⟨w',φ',σ.O⟩) (fun w1 D h1 h2 ⟨hr,hle⟩=> ⟨⟨fun t=>ak.cn (jn (μ:=⟨w1,φ',σ.O⟩) h2 rfl rfl) (hr.tmps t),uZ hr.aX h2⟩,y8 hle h1⟩) (fun w' ⟨hr,pE⟩=> ?_) iK ⟨hr,pE⟩
    obtain⟨Ra,r1,r2⟩:=ui hr We l1
    refine⟨_,r1,φ',σ.T,σ.O,_,refs,pE,hr.aX,?_,l4 _ rfl,l3,l2⟩
    match vs,Ra,r2 with
    | [],[],r2=>simp only[ak];exact⟨_,rfl,by simpa using r2⟩
    | [v],[u],r2=>simp only[aj] at r2;exact r2.1
    | _::_::_,_::_::_,r2=>simp only[ak];exact⟨_,rfl,by simpa using r2⟩
    | [],_::_,r2=>simp[aj] at r2
    | _::_,[],r2=>simp[aj] at r2
    | [_],_::_::_,r2=>simp[aj] at r2
    | _::_::_,[_],r2=>simp[aj] at r2
   rcases he with rfl| rfl
   · exact fin
   · exact fin
 · simp at aM
theorem tC (    hE:tB X E): ∀ (n:Nat) (f:Nat) (F:FuncId) (args:List V) (res:fh),X.jg F=some f→call E n f args=some res→cu X F args res:=by
 intro n
 induction n using Nat.strongRecOn with
 | _ n ih=>
   have low: ∀ (f:Nat) (F:FuncId) (args:List V) (res:fh),X.jg F=some f→jP E (exec E n) f args=some res→cu X F args res:= ?low
   · intro f F args res hF h
     unfold call dL at h
     split at h
     · rename_i g hg
       exact hE.hyb f g F hg hF _ low args res h
     · exact low f F args res hF h
   intro f F args res hF h
   unfold jP at h
   split at h
   · rename_i r he
     injection h with h;subst h
     exact hE.ext f args r F he hF
   · split at h
     · rename_i af hf
       split at h
       · rename_i hlen
         have hH: ∀m,m<n→ ∀ (B:Nat→Prop) (K:Nat×Nat),my ⟨X,B,K⟩ E (dL E (exec E m)):=fun m hm B K=>zf hE.inj fun f F as res h1 h2=>ih m hm f F as res h1 h2
         split at h
         · split at h
           · rename_i σ hx;exact kW hE hH hf hF hlen hx (.inl rfl) h
           · rename_i σ hx;exact kW hE hH hf hF hlen hx (.inr rfl) h
           · simp at h
         · rename_i p hp
           split at h
           · rename_i rz
             have uR: (db p args).length=af.nparams:=by rw[ft];exact hlen
             split at h
             · rename_i σ hx
               rw[Option.map_eq_some_iff] at h
               obtain⟨r0,h,rfl⟩:=h
               exact va rz (kW hE hH hf hF uR hx (.inl rfl) h)
             · rename_i σ hx
               rw[Option.map_eq_some_iff] at h
               obtain⟨r0,h,rfl⟩:=h
               exact va rz (kW hE hH hf hF uR hx (.inr rfl) h)
             · simp at h
           · simp at h
       · simp at h
     · simp at h
end
end Go.AM
namespace Go.AM
open Go Go.RowKit
section
variable {X:TrEnv} {F:FuncId} {fn:Func}
theorem pM {args:List V} (h:V.aq args=true): (enter args).O=fun _=>bD:=by rw[fu h]
theorem zh (pQ:X.P.funcs[F]? =some fn) (lD: (fn.name== "runtime.NumGoroutine")=false) (hb:fn.body.isNone=true) (hn:Extern.findNext fn=none) (he:Extern.find fn=some Extern.MathSqrt.sqrt)
   {as:List V} {res:fh} (h:wq as=some res):cu X F as res:=by
 unfold wq at h
 split at h
 · rename_i b
   split at h
   · rename_i r hr
     injection h with h;subst h
     intro B K w φ0 vals hl hv ho
     match vals,hl with
     | [v],_=>
       have h0:=hv 0 v rfl
       have e0: (enter [V.float b]).T 0= .float b:=rfl
       rw[e0] at h0
       simp only[ak] at h0
       subst h0
       rw[run_callFunc_extern pQ lD hb hn he]
       have ah: (Extern.MathSqrt.sqrt #[.float .f64 b]).run X.P w= .ok (.float .f64 r) w:=by
         have e:Extern.MathSqrt.sqrt #[.float .f64 b]=(match FloatKind.f64.format.sqrt b with
          | some r=>pure (.float .f64 r)
          | none=>do pure (.float .f64 (←choose (.nanBits .f64 b b)))):=rfl
         rw[e,hr];rfl
       have e1: ([Value.float .f64 b]:List Value).toArray= #[.float .f64 b]:=rfl
       rw[e1,ah]
       simp only[Result.andThen,ud]
       refine⟨φ0,fun _=>dp,_,.float r,[],Le.refl _,ho,by simp[ak],.one (by simp[cp,V.aC]),rfl,rfl⟩
   · simp at h
 · simp at h
def Lp:Env:={fn:=fun _=>none,ext:=fun _ _=>none}
def UP:bb:=fun _ _=>none
def strip (o:bq):bq:={o with pre:=[]}
structure oA (X:TrEnv) (fn:Func) (sz lim:Nat):Prop where
 body: ∃i0 i1 i2 i3 DD Lq DE DF,fn.body=some (.seq (.region i0 DD false) (.seq (.seq (.region i1 Lq false) (.cond (.tmp 4) (.seq (.region i2 DE false) .ret) .skip)) (.seq (.region i3 DF false) .ret)))∧
  (fp X ({n:=fn.ntmps}:Hints) DD DD.toList).map (List.map strip)=some [⟨some 2,.move (.const .nils),none,[]⟩]∧
  (fp X ({n:=fn.ntmps}:Hints) DE DE.toList).map (List.map strip)=some [⟨some 2,.move (.const .nils),none,[]⟩]∧
  (∃zero,aN zero sz=true∧0 <sz∧(fp X ({n:=fn.ntmps}:Hints) DF DF.toList).map (List.map strip)=some [⟨some 5,.buildSlice 96 sz zero 0 [],none,[]⟩,⟨some 6,.move (.tmp 0),none,[]⟩,⟨some 7,.append 128 sz lim (.tmp 5) (.tmp 6),none,[]⟩,⟨some 2,.move (.tmp 7),none,[]⟩])∧
  (∃o1 o2 t e,Lq= #[o1,o2]∧(mf X ({n:=fn.ntmps}:Hints) #[o1,o2] o1).map strip=some ⟨some 3,.move (.tmp 0),none,[]⟩∧o2.dst=some 4∧o2.guard=none∧o2.op= .binOp .eql t (.tmp 3) (.const (.slice none 0 0)) t∧X.P.underlying t=some (.slice e))
 res:fn.results= #[.tmp 2]
 tmps:8≤fn.ntmps
theorem F5 {Y:Ctx} (lI: ∀t1 t2 k,Y.iv t1=some k→Y.iv t2=some k→t1=t2):my Y Lp UP:=
 zf lI fun _ _ _ _ _ h=>by simp[UP] at h
theorem Lr {Y:Ctx} (lI: ∀t1 t2 k,Y.iv t1=some k→Y.iv t2=some k→t1=t2) (n:Nat):my Y Lp (call Lp n):=
 zf lI fun _ _ _ _ _ h=>by simp[call,dL,jP,Lp] at h
theorem rA (lI: ∀t1 t2 k,X.iv t1=some k→X.iv t2=some k→t1=t2) (pQ:X.P.funcs[F]? =some fn) (lD: (fn.name== "runtime.NumGoroutine")=false) {sz lim:Nat} (XV:oA X fn sz lim)
   {as:List V} {res:fh} (h:vh sz lim as=some res):cu X F as res:=by
 obtain⟨⟨i0,i1,i2,i3,DD,Lq,DE,DF,ib,h0,h2,⟨zero,tN,uM,h3⟩,o1,o2,t,e,rfl,Mg,BV,Lm,Rb,Zs⟩,lK,Wy⟩:=XV
 rw[Option.map_eq_some_iff] at h0 h2 h3 Mg
 obtain⟨Zt,h0,k0⟩:=h0
 obtain⟨Zu,h2,k2⟩:=h2
 obtain⟨Zv,h3,k3⟩:=h3
 obtain⟨XW,Mg,k1⟩:=Mg
 have Mq:Zt.map (fun o=> {o with pre:=[]})=_:=k0
 have Zw:Zu.map (fun o=> {o with pre:=[]})=_:=k2
 have Zx:Zv.map (fun o=> {o with pre:=[]})=_:=k3
 obtain⟨a0,xs,rfl,sZ,xf,rfl⟩: ∃a0 xs,as=[a0]∧(a0= .lit sz xs∨a0= .nils∧xs=[])∧xs.length≤lim∧res=⟨.own sz xs,[]⟩:=by
   unfold vh at h
   split at h
   · injection h with h;exact⟨_,[],rfl,.inr ⟨rfl,rfl⟩,by simp,h.symm⟩
   · rename_i sz' xs
     split at h
     · rename_i he;injection h with h;obtain⟨rfl,he⟩:=he;exact⟨_,xs,rfl,.inl rfl,he,h.symm⟩
     · simp at h
   · simp at h
 have rz:V.aq [a0]=true:=by rcases sZ with rfl| ⟨rfl,rfl⟩ <;>rfl
 intro B K w φ0 vals B2 hv ho
 have hO: (enter [a0]).O=fun _=>bD:=pM rz
 have XX: (enter [a0]).T 0=a0:=by rw[fu rz];rfl
 have Ln: (callFunc F vals.toArray).run X.P w= .ok (.enter F vals.toArray) w:=by
   simp[callFunc,Sem.run_bind,program,Sem.run,pQ,ib]
   simpa using lD
 rw[Ln]
 simp only[ud]
 refine(callsIn_wide (n:=0)).1 (callsIn_of_wp_marks (F:=Fr none) pQ ib trivial ?_ rfl)
 have cE:vals.toArray.size≤fn.ntmps:=by simp[B2];omega
 have ki:iE ⟨X,B,K⟩ ⟨w,φ0,(enter [a0]).O⟩ ⟨fn.ntmps,w.heap.size,none⟩ (enter [a0]) {tmps:=vals.toArray++Array.replicate (fn.ntmps - vals.toArray.size) undef,defers:=[]} w:=by
   refine⟨Marks.nil (Nat.le_refl _) (by simp),by simp at cE ⊢;omega,φ0,⟨fun t=> ?_,ho⟩,Le.refl _⟩
   by_cases ht:t<vals.length
   · have e1: (vals.toArray++Array.replicate (fn.ntmps - vals.toArray.size) undef).getD t undef=vals[t]:=by
       simp[Array.getElem?_append,ht]
     rw[e1]
     exact hv t _ (List.getElem?_eq_getElem ht)
   · have e1: (vals.toArray++Array.replicate (fn.ntmps - vals.toArray.size) undef).getD t undef=undef:=by
       simp[Array.getElem?_append,ht,Array.getElem?_replicate]
       split<;>rfl
     have e2: (enter [a0]).T t=dp:=by
       have: [a0][t]? =none:=List.getElem?_eq_none (by omega)
       simp[enter,this]
     rw[e1,e2]
     exact qy
 have H:=F5 (Y:=⟨X,B,K⟩) lI
 refine wpIn_seq (wpIn_mono (wpIn_region (Q:=fun ex a w'=>ex= .normal∧iE ⟨X,B,K⟩ ⟨w,φ0,(enter [a0]).O⟩ ⟨fn.ntmps,w.heap.size,none⟩ ((enter [a0]).put (some 2) .nils) a w') ?_) ?_)
 · rw[List.range_eq_range']
   refine ej H (h:=({n:=fn.ntmps}:Hints)) rfl h0 DD.size 0 (by omega) ki (by rw[List.drop_zero,Mq];rfl) fun a' w' jY=> ⟨rfl,jY⟩
 rintro ex a1 w1 ⟨rfl,qY⟩
 refine wpIn_seq (wpIn_seq (wpIn_region ?_))
 have WI:List.range (#[o1,o2]:Array Oper).size=[0,1]:=rfl
 rw[WI,wpOpsIn_cons]
 have Zy: ((enter [a0]).put (some 2) .nils).T 0=a0:=XX
 have Rc:ep Lp UP XW ((enter [a0]).put (some 2) .nils)=some (((enter [a0]).put (some 2) .nils).put (some 3) a0):=by
   have hs:ep Lp UP (strip XW) ((enter [a0]).put (some 2) .nils)=some (((enter [a0]).put (some 2) .nils).put (some 3) a0):=by
     rw[k1]
     show some (((enter [a0]).put (some 2) .nils).put (some 3) (((enter [a0]).put (some 2) .nils).T 0))=_
     rw[Zy]
   exact hs
 refine ou H (h:=({n:=fn.ntmps}:Hints)) (o:=o1) rfl Mg rfl qY Rc fun a2 w2 tZ=> ?_
 generalize WJ: ((enter [a0]).put (some 2) .nils).put (some 3) a0=σ2 at tZ
 have Zz:σ2.T 3=a0:=by rw[←WJ];rfl
 have XY:σ2.T 0=a0:=by rw[←WJ];exact XX
 have XZ:σ2.O=fun _=>bD:=by rw[←WJ];exact hO
 rw[wpOpsIn_cons]
 obtain⟨Dp,Re,φ2,pS,La⟩:=tZ
 have vD:=pS.tmps 3
 rw[Zz] at vD
 obtain⟨ad,n,cap,wb⟩: ∃ad n cap,a2.tmps.getD 3 undef= .slice ad n cap:=by
   rcases sZ with rfl| ⟨rfl,_⟩
   · simp only[ak] at vD
     obtain⟨_,_,a,c,_,h,_⟩:=vD
     exact⟨_,_,_,h⟩
   · simp only[ak] at vD
     obtain⟨a,h⟩:=vD
     exact⟨_,_,_,h⟩
 have pB:ad.isNone=true→xs=[]:=by
   intro hn
   rcases sZ with rfl| ⟨rfl,h9⟩
   · simp only[ak] at vD
     obtain⟨_,_,a,c,_,h,_,_,h'⟩:=vD
     rw[wb] at h
     injection h with h _ _
     rcases h' with h'| ⟨b,o,h',_⟩
     · exact h'
     · rw[h,h'] at hn;simp at hn
   · exact h9
 have heq: (Op.equal t (.slice ad n cap) (.slice none 0 0)).run X.P w2= .ok ad.isNone w2:=run_equal_slice_nil w2 t e ad n cap Zs
 have jJ: (execOp a2.eval o2).run X.P w2= .ok (.value (.bool ad.isNone)) w2:=by
   simp only[execOp,Rb]
   refine b9 ?_
   have ev:a2.eval (.tmp 3)= .slice ad n cap:=by simpa [Go.Act.eval] using wb
   have eF:a2.eval (.const (.slice none 0 0))= .slice none 0 0:=rfl
   simp[eqGuard,ev,eF,Go.binOp,Sem.run_bind,heq]
 have rF: (#[o1,o2]:Array Oper)[1]? =some o2:=rfl
 simp only[wpOpIn,rF]
 rw[if_pos (by simp[Region.wanted,Lm])]
 refine vU (by rw[Rb];simp) ?_
 unfold Oper.wp
 rw[jJ,Oper.upon_value]
 simp only[wpOpsIn]
 have zM:iE ⟨X,B,K⟩ ⟨w,φ0,(enter [a0]).O⟩ ⟨fn.ntmps,w.heap.size,none⟩ (σ2.put (some 4) (.bool ad.isNone)) (a2.put o2.dst (.bool ad.isNone)) w2:=by
   rw[BV]
   refine⟨by rw[put_defers];exact Dp,by rw[ke];exact Re,φ2,?_,?_⟩
   · exact nc pS (Le.refl _) pS.aX (by simp[ak]) (by simp;rw[Re];simp;omega) σ2.O
   · exact La
 generalize a2.put o2.dst (.bool ad.isNone)=a3 at zM ⊢
 have BZ:a3.eval (.tmp 4)= .bool ad.isNone:=tx (c':= .tmp 4) zM rfl rfl
 have zx:V.aq xs=true∧xs.all (aN · sz)=true:=by
   rcases sZ with rfl| ⟨rfl,h9⟩
   · simp only[ak] at vD
     obtain⟨k1,k2,a,c,vs,_,_,k3,k4⟩:=vD
     refine⟨k1,?_⟩
     rcases k4 with rfl| ⟨b,o,_,_,_,k5⟩
     · rfl
     · rw[List.all_eq_true] at k2 ⊢
       intro x hx
       obtain⟨i,hi⟩:=List.mem_iff_getElem?.1 hx
       obtain⟨v,Wc,B0⟩:=aj.get k3 hi
       have:=(k5 i v Wc).1
       rw[B0.dE (k2 x hx)] at this
       simp[aN,this,k2 x hx]
   · subst h9;exact⟨rfl,rfl⟩
 have Rf: ∀ (a':Go.Act) (w':World) (O':Nat→Obj),Marks ⟨fn.ntmps,w.heap.size,none⟩ w' a'.defers→(∃φ',Le ⟨w,φ0,(enter [a0]).O⟩ ⟨w',φ',O'⟩∧bj ⟨X,B,K⟩ ⟨w',φ',O'⟩∧ ∃r g,1≤r∧ak ⟨X,B,K⟩ ⟨w',φ',O'⟩ (.sl r g 0 xs.length) (a'.tmps.getD 2 undef)∧O' r=⟨g,sz,true,false,some xs⟩)→
     bodyPostM (Fr none) 0 X.P fn (fun| .returned val,w'=> ∃φ' T' O' v0 refs,Le ⟨w,φ0,(enter [a0]).O⟩ ⟨w',φ',O'⟩∧bj ⟨X,B,K⟩ ⟨w',φ',O'⟩∧ak ⟨X,B,K⟩ ⟨w',φ',O'⟩ v0 val∧dd [a0].length ⟨T',O'⟩ v0 (fh.mk (.own sz xs) []).val refs∧distinct refs=true∧bP O' 0 [a0]=some (fh.mk (.own sz xs) []).outs| _,_=>False) .ret a' w':=by
   rintro a' w' O' hd ⟨φ',k1,k2,r,g,k3,k4,k5⟩
   refine rv (fun w'=> (Le ⟨w,φ0,(enter [a0]).O⟩ ⟨w',φ',O'⟩∧bj ⟨X,B,K⟩ ⟨w',φ',O'⟩)∧ak ⟨X,B,K⟩ ⟨w',φ',O'⟩ (.sl r g 0 xs.length) (a'.tmps.getD 2 undef)) (fun w1 D h1 h2 ⟨⟨hle,zV⟩,hv⟩=> ⟨⟨y8 hle h1,uZ zV h2⟩,ak.cn (jn (μ:=⟨w1,φ',O'⟩) h2 rfl rfl) hv⟩) ?_ hd ⟨⟨k1,k2⟩,k4⟩
   rintro w' ⟨⟨k1,k2⟩,k4⟩
   refine⟨a'.tmps.getD 2 undef,by simp[results,lK],φ',fun _=>dp,O',_,[r],k1,k2,k4,.one ?_,rfl,fA rz⟩
   have KP:aH xs 0 xs.length=xs:=kz rfl
   have ZA: ¬r< [a0].length:=by simp;omega
   simp only[cp,V.aC,bH,k5,KP,zx.1,ZA]
   simp
 cases hb:ad.isNone with
 | true=>
   rw[hb] at BZ
   obtain rfl:=pB hb
   refine wpIn_cond_true BZ (wpIn_seq (wpIn_region ?_))
   rw[List.range_eq_range']
   refine ej H (h:=({n:=fn.ntmps}:Hints)) rfl h2 DE.size 0 (by omega) zM (σ':=(σ2.put (some 4) (.bool ad.isNone)).put (some 2) .nils) (by rw[List.drop_zero,Zw];rfl) fun a' w' jY=> ?_
   refine wpIn_ret ?_
   obtain⟨lr,_,φ,ql,pE⟩:=jY
   have eO: ((σ2.put (some 4) (.bool ad.isNone)).put (some 2) .nils).O=fun _=>bD:=XZ
   have B0:=ql.tmps 2
   have e2: ((σ2.put (some 4) (.bool ad.isNone)).put (some 2) .nils).T 2= .nils:=rfl
   rw[e2] at B0
   have fk:=ql.aX
   rw[eO] at pE fk
   simp only[ak] at B0
   obtain⟨aa,ZB⟩:=B0
   refine Rf a' w' (cW (fun _=>bD) 1 ⟨1,sz,true,false,some []⟩) lr ⟨cW φ 1 ⟨0,0,0⟩,pE.trans ⟨Nat.le_refl _,fun b hb hn=> ⟨rfl,?_⟩,fun r=> ?_,fun r hr=> ?_,rfl,rfl,rfl,fun _ _=>rfl⟩,⟨fun r es bJ=> ?_,fun r r' _ h1 h2 h3 h4=> ?_,fun r h1 h2=> ?_,fk.blt⟩,1,1,Nat.le_refl _,?_,rfl⟩
   · rintro⟨r,h1,h2,h3,h4⟩
     by_cases e:r=1
     · subst e;simp[cW] at h3
     · simp[cW,e,bD] at h1
   · simp only[bD];omega
   · by_cases e:r=1
     · subst e;simp[cW,bD] at hr
     · simp[cW,e]
   · by_cases e:r=1
     · subst e
       simp only[cW,if_true,Option.some.injEq] at bJ ⊢
       subst bJ
       left
       unfold jI
       simp only[cW,if_true]
       exact⟨uM,by simp,rfl,by simp⟩
     · simp[cW,e,bD] at bJ
   · by_cases e:r=1
     · subst e;simp[cW] at h3
     · simp[cW,e,bD] at h1
   · by_cases e:r=1
     · subst e;simp[cW] at h2
     · simp[cW,e,bD] at h1
   · simp only[ak]
     exact⟨aa,0,ZB,by simp,by simp[cW],fun _=> ⟨by simpa [cW] using uM,by simp[cW],by simp⟩⟩
 | false=>
   rw[hb] at BZ
   refine wpIn_cond_false BZ (wpIn_skip ?_)
   refine wpIn_seq (wpIn_region ?_)
   have ZC:Ed Lp [⟨some 5,.buildSlice 96 sz zero 0 [],none,[]⟩,⟨some 6,.move (.tmp 0),none,[]⟩,⟨some 7,.append 128 sz lim (.tmp 5) (.tmp 6),none,[]⟩,⟨some 2,.move (.tmp 7),none,[]⟩] (σ2.put (some 4) (.bool ad.isNone))
       (fun σ'=> ∃g,σ'.T 2= .sl 96 g 0 xs.length∧σ'.O 96=⟨g,sz,true,false,some xs⟩):=by
     have Rg:σ2.O 96=bD:=by rw[XZ]
     have GL:0*sz≤16777216:=by simp
     have WK:=tN
     simp only[aN,V.cX] at WK
     have Af: ∀ (k:List V→Act),content sz a0 k=k xs:=by
       intro k
       rcases sZ with rfl| ⟨rfl,rfl⟩ <;>simp[content]
     by_cases hx:xs=[]
     · subst hx
       simp only[rQ,kr,oK,oL,rP,mM,mN,oM,oG,rO,oO,rR,dr,gO,mO,kx,ar.jC,r7,jZ,lN,lM,oF,r8,ve,oI,lO,oJ,j0,oH,r9,vf,aN,V.cX,V.aC,V.aq,V.isScalar,V.bn,se,fA,ku,iT,pX,B9,Ca,yi,yj,sb,pW,bD,andThen,sa,jB,gM,Cc,dp,fh.mk.injEq,V.int.injEq,V.tuple.injEq,List.cons.injEq,V.bool.injEq,V.str.injEq,V.agg.injEq,List.getD_cons_zero,List.getD_cons_succ,List.getD_nil,List.length_cons,List.length_nil,List.getElem?_cons_zero,List.getElem?_cons_succ,List.set_cons_zero,List.set_cons_succ,List.take_succ_cons,List.take_zero,List.drop_succ_cons,List.drop_zero,List.take_nil,List.drop_nil,List.cons_append,List.nil_append,List.append_nil,Nat.zero_add,Nat.add_zero,Nat.reduceAdd,Nat.reduceSub,Nat.reduceMul,Nat.reduceEqDiff,Nat.reduceLT,Nat.reduceLeDiff,Nat.reduceBEq,BEq.rfl,Bool.true_or,Bool.or_true,Bool.false_or,Bool.or_false,Bool.and_true,Bool.true_and,Bool.and_false,Bool.false_and,Bool.and_self,Bool.or_self,Bool.false_eq_true,Bool.true_eq_false,Bool.not_true,Bool.not_false,Nat.lt_add_one,Nat.le_refl,decide_true,decide_false,decide_eq_true_eq,if_true,if_false,↓reduceIte,true_and,and_true,and_self,false_and,and_false,reduceCtorEq,Nat.sub_zero,Option.some.injEq,Nat.zero_lt_one,Nat.lt_irrefl,ne_eq,not_true_eq_false,not_false_eq_true,V.cells.eq_1,V.cells.eq_2,V.isAgg.eq_1,V.isAgg.eq_2,V.aI.eq_1,V.aI.eq_2,V.aI.eq_3,V.aI.eq_4,V.aI.eq_5,V.aI.eq_6,V.aI.eq_7,V.isTuple.eq_1,V.isTuple.eq_2,AM.part.eq_1,AM.part.eq_2,AM.part.eq_3,AM.part.eq_4,AM.cV.eq_1,AM.cV.eq_2,AM.cV.eq_3,AM.cV.eq_4,nj.eq_1,nj.eq_2,nj.eq_3,nj.eq_4,bE.eq_1,bE.eq_2,bE.eq_3,eu.eq_1,eu.eq_2,content.eq_1,content.eq_2,content.eq_3,content.eq_4,content.eq_5,dm.eq_1,dm.eq_2,b8.eq_1,b8.eq_2,qG.eq_1,qG.eq_2,b5.eq_1,b5.eq_2,b5.eq_3,b5.eq_4,b5.eq_5,b5.eq_6,dx.eq_1,dx.eq_2,fK.eq_1,fK.go.eq_1,fK.go.eq_2,cg.eq_1,cg.eq_2,ed.eq_1,ed.eq_2,dy.eq_1,dy.eq_2,bT.eq_1,bT.eq_2,bT.eq_3,cq.eq_1,cq.eq_2,bH.eq_1,bH.eq_2,bx.eq_1,bx.eq_2,cp.eq_1,cp.eq_2,cp.eq_3,cb.eq_1,cb.eq_2,er.eq_1,er.eq_2,cO.eq_1,cO.eq_2,bP.eq_1,bP.eq_2,bP.eq_3,bP.eq_4,bY.eq_1,bY.eq_2,bY.eq_3,bY.eq_4,bY.eq_5,bY.eq_6,bY.eq_7,bY.eq_8,bY.eq_9,bY.eq_10,bY.eq_11,bY.eq_12,bY.eq_13,bY.eq_14,bY.eq_15,bY.eq_16,bY.eq_17,bY.eq_18,bY.eq_19,bY.eq_20,bY.eq_21,de.eq_1,de.eq_2,de.eq_3,de.eq_4,de.eq_5,de.eq_6,de.eq_7,yk.eq_1,yk.eq_2,yk.eq_3,yk.eq_4,min2.eq_1,min2.eq_2,max2.eq_1,max2.eq_2,gm.eq_1,gm.eq_2,fL.eq_1,fL.eq_2,tT.eq_1,tT.eq_2,tT.eq_3,tT.eq_4,eA.eq_1,eA.eq_2,eA.eq_3,eB.eq_1,eB.eq_2,dK.eq_1,dK.eq_2,ev.eq_1,ev.eq_2,uq.eq_1,uq.eq_2,tJ.eq_1,tJ.eq_2,gu.eq_1,gu.eq_2,gu.eq_3,cM.eq_1,cM.eq_2,leave.eq_1,distinct.eq_1,distinct.eq_2,fin.eq_1,fin.eq_2,fin.eq_3,ar.eq_1,ar.eq_2,ar.eq_3,ar.eq_4,ar.eq_5,ar.eq_6,ar.eq_7,ar.eq_8,ar.eq_9,ar.eq_10,ar.eq_11,ar.eq_12,ar.eq_13,ar.eq_14,ar.eq_15,ar.eq_16,ar.eq_17,ar.eq_18,ar.eq_19,ar.eq_20,ar.eq_21,ar.eq_23,ar.eq_24,ar.eq_26,ar.eq_27,ar.eq_28,ar.eq_29,ar.eq_30,ar.eq_31,ar.eq_32,ar.eq_34,ar.eq_35,ar.eq_36,ar.eq_37,ar.eq_38,nW.eq_1,apart,cj.eq_1,cj.eq_2,cH.eq_1,cH.eq_2,cH.eq_3,eR.eq_1,eR.eq_2,List.map_nil,List.map_cons,List.all_nil,List.all_cons,List.contains_nil,List.contains_cons,iU.eq_1,iU.eq_2,Option.isSome_some,Option.isSome_none,Option.isNone_none,Option.isNone_some,oQ,vj,bne_self_eq_false,Bool.bne_true,Bool.bne_false,Bool.true_bne,Bool.false_bne,kz,List.isEmpty_cons,List.isEmpty_nil,eq_self,List.replicate_succ,List.replicate_zero,pY,Int.cast_ofNat_Int,Int.reduceToNat,Int.toNat_zero,Int.toNat_one,Int.reduceAdd,Int.reduceSub,Int.reduceMul,Int.reduceNeg,Int.reduceLE,Int.reduceLT,Int.reduceEq,Int.neg_ofNat_le_ofNat,Int.natCast_nonneg,Int.toNat_natCast,Int.toNat_natCast_add_one,Int.ofNat_lt,wrap64,Int.le_refl,XY,Rg,Af,WK,GL,uM,Cb (show ([]:List V).all (aN · sz)=true from rfl),Nat.zero_le,overwrite]
       exact⟨1,rfl,rfl⟩
     · have xw: ¬xs.length≤0:=by
        intro h;exact hx (List.eq_nil_of_length_eq_zero (by omega))
       simp only[rQ,kr,oK,oL,rP,mM,mN,oM,oG,rO,oO,rR,dr,gO,mO,kx,ar.jC,r7,jZ,lN,lM,oF,r8,ve,oI,lO,oJ,j0,oH,r9,vf,aN,V.cX,V.aC,V.aq,V.isScalar,V.bn,se,fA,ku,iT,pX,B9,Ca,yi,yj,sb,pW,bD,andThen,sa,jB,gM,Cc,dp,fh.mk.injEq,V.int.injEq,V.tuple.injEq,List.cons.injEq,V.bool.injEq,V.str.injEq,V.agg.injEq,List.getD_cons_zero,List.getD_cons_succ,List.getD_nil,List.length_cons,List.length_nil,List.getElem?_cons_zero,List.getElem?_cons_succ,List.set_cons_zero,List.set_cons_succ,List.take_succ_cons,List.take_zero,List.drop_succ_cons,List.drop_zero,List.take_nil,List.drop_nil,List.cons_append,List.nil_append,List.append_nil,Nat.zero_add,Nat.add_zero,Nat.reduceAdd,Nat.reduceSub,Nat.reduceMul,Nat.reduceEqDiff,Nat.reduceLT,Nat.reduceLeDiff,Nat.reduceBEq,BEq.rfl,Bool.true_or,Bool.or_true,Bool.false_or,Bool.or_false,Bool.and_true,Bool.true_and,Bool.and_false,Bool.false_and,Bool.and_self,Bool.or_self,Bool.false_eq_true,Bool.true_eq_false,Bool.not_true,Bool.not_false,Nat.lt_add_one,Nat.le_refl,decide_true,decide_false,decide_eq_true_eq,if_true,if_false,↓reduceIte,true_and,and_true,and_self,false_and,and_false,reduceCtorEq,Nat.sub_zero,Option.some.injEq,Nat.zero_lt_one,Nat.lt_irrefl,ne_eq,not_true_eq_false,not_false_eq_true,V.cells.eq_1,V.cells.eq_2,V.isAgg.eq_1,V.isAgg.eq_2,V.aI.eq_1,V.aI.eq_2,V.aI.eq_3,V.aI.eq_4,V.aI.eq_5,V.aI.eq_6,V.aI.eq_7,V.isTuple.eq_1,V.isTuple.eq_2,AM.part.eq_1,AM.part.eq_2,AM.part.eq_3,AM.part.eq_4,AM.cV.eq_1,AM.cV.eq_2,AM.cV.eq_3,AM.cV.eq_4,nj.eq_1,nj.eq_2,nj.eq_3,nj.eq_4,bE.eq_1,bE.eq_2,bE.eq_3,eu.eq_1,eu.eq_2,content.eq_1,content.eq_2,content.eq_3,content.eq_4,content.eq_5,dm.eq_1,dm.eq_2,b8.eq_1,b8.eq_2,qG.eq_1,qG.eq_2,b5.eq_1,b5.eq_2,b5.eq_3,b5.eq_4,b5.eq_5,b5.eq_6,dx.eq_1,dx.eq_2,fK.eq_1,fK.go.eq_1,fK.go.eq_2,cg.eq_1,cg.eq_2,ed.eq_1,ed.eq_2,dy.eq_1,dy.eq_2,bT.eq_1,bT.eq_2,bT.eq_3,cq.eq_1,cq.eq_2,bH.eq_1,bH.eq_2,bx.eq_1,bx.eq_2,cp.eq_1,cp.eq_2,cp.eq_3,cb.eq_1,cb.eq_2,er.eq_1,er.eq_2,cO.eq_1,cO.eq_2,bP.eq_1,bP.eq_2,bP.eq_3,bP.eq_4,bY.eq_1,bY.eq_2,bY.eq_3,bY.eq_4,bY.eq_5,bY.eq_6,bY.eq_7,bY.eq_8,bY.eq_9,bY.eq_10,bY.eq_11,bY.eq_12,bY.eq_13,bY.eq_14,bY.eq_15,bY.eq_16,bY.eq_17,bY.eq_18,bY.eq_19,bY.eq_20,bY.eq_21,de.eq_1,de.eq_2,de.eq_3,de.eq_4,de.eq_5,de.eq_6,de.eq_7,yk.eq_1,yk.eq_2,yk.eq_3,yk.eq_4,min2.eq_1,min2.eq_2,max2.eq_1,max2.eq_2,gm.eq_1,gm.eq_2,fL.eq_1,fL.eq_2,tT.eq_1,tT.eq_2,tT.eq_3,tT.eq_4,eA.eq_1,eA.eq_2,eA.eq_3,eB.eq_1,eB.eq_2,dK.eq_1,dK.eq_2,ev.eq_1,ev.eq_2,uq.eq_1,uq.eq_2,tJ.eq_1,tJ.eq_2,gu.eq_1,gu.eq_2,gu.eq_3,cM.eq_1,cM.eq_2,leave.eq_1,distinct.eq_1,distinct.eq_2,fin.eq_1,fin.eq_2,fin.eq_3,ar.eq_1,ar.eq_2,ar.eq_3,ar.eq_4,ar.eq_5,ar.eq_6,ar.eq_7,ar.eq_8,ar.eq_9,ar.eq_10,ar.eq_11,ar.eq_12,ar.eq_13,ar.eq_14,ar.eq_15,ar.eq_16,ar.eq_17,ar.eq_18,ar.eq_19,ar.eq_20,ar.eq_21,ar.eq_23,ar.eq_24,ar.eq_26,ar.eq_27,ar.eq_28,ar.eq_29,ar.eq_30,ar.eq_31,ar.eq_32,ar.eq_34,ar.eq_35,ar.eq_36,ar.eq_37,ar.eq_38,nW.eq_1,apart,cj.eq_1,cj.eq_2,cH.eq_1,cH.eq_2,cH.eq_3,eR.eq_1,eR.eq_2,List.map_nil,List.map_cons,List.all_nil,List.all_cons,List.contains_nil,List.contains_cons,iU.eq_1,iU.eq_2,Option.isSome_some,Option.isSome_none,Option.isNone_none,Option.isNone_some,oQ,vj,bne_self_eq_false,Bool.bne_true,Bool.bne_false,Bool.true_bne,Bool.false_bne,kz,List.isEmpty_cons,List.isEmpty_nil,eq_self,List.replicate_succ,List.replicate_zero,pY,Int.cast_ofNat_Int,Int.reduceToNat,Int.toNat_zero,Int.toNat_one,Int.reduceAdd,Int.reduceSub,Int.reduceMul,Int.reduceNeg,Int.reduceLE,Int.reduceLT,Int.reduceEq,Int.neg_ofNat_le_ofNat,Int.natCast_nonneg,Int.toNat_natCast,Int.toNat_natCast_add_one,Int.ofNat_lt,wrap64,Int.le_refl,XY,Rg,Af,WK,GL,uM,Cb zx.2,zx.1,xf,Nat.zero_le,xw]
       exact⟨2,rfl,rfl⟩
   obtain⟨n,σ4,Rh,g,QM,Lm⟩:=ZC
   rw[List.range_eq_range']
   refine ej (Lr (Y:=⟨X,B,K⟩) lI n) (h:=({n:=fn.ntmps}:Hints)) rfl h3 DF.size 0 (by omega) zM (by rw[List.drop_zero,Zx];exact Rh) fun a' w' jY=> ?_
   refine wpIn_ret ?_
   obtain⟨lr,_,φ,ql,pE⟩:=jY
   have B0:=ql.tmps 2
   rw[QM] at B0
   exact Rf a' w' σ4.O lr ⟨φ,pE,ql.aX,96,g,by omega,B0,Lm⟩
end
end Go.AM
namespace Go.AM
open Go Go.RowKit Go.ChangeShapes Go.WideShapes
theorem BH {H:Type} {enc:TypeId×Value→H} {P:Program} {f:Func} {s:ChangeSpec} {apart fresh handsOn again:Bool} {W W':World} {args:Array Value} {v:Value} {ds gs:List (DataW H)} {before pa pv:List MemPlace}
   (hW:DataW.Whole enc P f.params.toList s.vars apart W args.toList ds gs before)
   (lK: ∀ (b:Nat) (sp:Nat→Bool) (hd:Bool),DataW.TrodAll enc P W' b sp hd f.resultTypes.toList (v.resultList f.resultTypes.size) (s.fn H (ds++gs)).results [])
   (jm: ∀sp:Nat→Bool,(∀p ∈ before,sp p.block=true)→DataW.TrodAll enc P W' 0 sp true f.params.toList args.toList (s.fn H (ds++gs)).args pa)
   (G7: ∀sp:Nat→Bool,(∀p ∈ before,sp p.block=true)→DataW.TrodVars enc P W' sp s.vars (s.fn H (ds++gs)).vars pv)
   (tK:before=pa++pv) (hk:W.keptBut W' (· ∈ before)) (fY: ∀a,a.block<W.heap.size→W'.frozen? a=W.frozen? a)
   (QL: ∀ (j:Nat) (t:TypeId) (r:Value),f.resultTypes[j]? =some t→(v.resultList f.resultTypes.size)[j]? =some r→Value.okWide P W' .any 0 t r):
   s.post enc P f apart fresh handsOn again W args v W':=by
 have hold: ∀p ∈ before,(fun b=>decide (b<W.heap.size)) p.block=true:=fun p hp=>by simpa using hW.lt p hp
 have bA:=hW.lt
 refine⟨ds,gs,before,[],pa,pv,hW,lK _ _ _,jm _ hold,G7 _ hold,World.keptBut_mono (fun p hp=> ⟨hp,?_⟩) hk,fun _=> ?_⟩
 · rw[tK,List.mem_append] at hp
   exact Or.inr hp
 · obtain⟨_,_,_,_,_,hz,hn⟩:=hW
   refine⟨QL,_,_,([]++pa)++pv,⟨[]++pa,pv,trodAll_append (jm _ (fun _ _=>rfl)) (lK _ _ _),G7 _ (fun _ _=>rfl),rfl,?_,?_⟩,?_⟩
   · intro b off hp
     have hb:MemPlace.cell b off ∈ before:=by rw[tK];simpa using hp
     rw[fY _ (bA _ hb)]
     exact hz b off hb
   · intro ha
     have:=hn ha
     rw[tK] at this
     simpa using this
   · intro p hp _
     rw[tK]
     simpa using hp
end Go.AM
namespace Go.AM
open Go Go.RowKit
section
variable (P:Program)
def rM (e:TypeId) (ws:List V):V:=match P.underlying e with
 | some (.struct _) | some (.array ..)=> .agg ws
 | _=>ws.headD dp
def Ri (tv:TypeId→List V→Prop):List Field→List V→Prop
 | [],vs=>vs=[]
 | f::fs,vs=> ∃a b,vs=a++b∧a.length=P.cellsOf f.type∧tv f.type a∧Ri tv fs b
def UQ (tv:List V→Prop) (s:Nat):Nat→List V→Prop
 | 0,vs=>vs=[]
 | k+1,vs=> ∃a b,vs=a++b∧a.length=s∧tv a∧UQ tv s k b
def TV:Nat→TypeId→List V→Prop
 | 0,_,_=>False
 | n+1,t,vs=>match P.underlying t with
   | some .bool=> ∃b,vs=[.bool b]
   | some (.int k)=> ∃x,vs=[.int k x]∧(Lit.int k x).wf=true
   | some .string=> ∃s,vs=[.str s]∧s.length≤maxLen
   | some (.slice e)=>vs=[.nils]∨ ∃xs,vs=[.lit (P.cellsOf e) xs]∧xs.length≤maxLen∧ ∀x ∈ xs,∃ws,TV n e ws∧x=rM P e ws
   | some (.struct fs)=>Ri P (TV n) fs.toList vs
   | some (.array k e)=>UQ (TV n e) (P.cellsOf e) k vs
   | _=>False
def mH:List Field→Nat→Option Nat
 | [],off=>some off
 | f::fs,off=>if f.offset=off then mH fs (off+P.cellsOf f.type) else none
def wc (S:List TypeId) (t:TypeId):Bool:=match P.underlying t with
 | some .bool| some (.int _) | some .string=>P.cellsOf t==1
 | some (.slice e)=>P.cellsOf t==1 &&decide (0 <P.cellsOf e) &&S.contains e
 | some (.struct fs)=> (mH P fs.toList 0==some (P.cellsOf t)) &&fs.toList.all fun f=>S.contains f.type
 | some (.array k e)=>S.contains e &&P.cellsOf t==k*P.cellsOf e
 | _=>false
end
section
variable {X:TrEnv} {H:Type} {enc:TypeId×Value→H} {w:World} {S:List TypeId} {base:Nat} {spare:Nat→Bool} {held:Bool}
abbrev still (w:World) (φ:Nat→Row):Mu:=⟨w,φ,fun _=>bD⟩
abbrev free (X:TrEnv):Ctx:=⟨X,fun _=>False,(0,0)⟩
def Good (X:TrEnv) (w:World) (n:Nat) (t:TypeId) (vs:List V) (cs:List Value):Prop:=
 TV X.P n t vs∧vs.all V.aI=true∧V.aq vs=true∧ ∀φ,aj (free X) (still w φ) vs cs
theorem kX: ∀ {a b:List V},V.aq (a++b)=(V.aq a &&V.aq b)
 | [],b=>by simp[V.aq]
 | x::a,b=>by simp[V.aq,kX (a:=a),Bool.and_assoc]
theorem rB {n:Nat}: ∀ {fs:List Field} {cs:List Value} {off total:Nat},mH X.P fs off=some total→cs.length=total→
   (∀f ∈ fs,∃vs,Good X w n f.type vs ((cs.drop f.offset).take (X.P.cellsOf f.type)))→
   ∃vs,Ri X.P (TV X.P n) fs vs∧vs.all V.aI=true∧V.aq vs=true∧ ∀φ,aj (free X) (still w φ) vs (cs.drop off)
 | [],cs,off,total,hc,hl,_=>by
   simp only[mH,Option.some.injEq] at hc
   subst hc
   refine⟨[],rfl,rfl,rfl,fun φ=> ?_⟩
   rw[List.drop_eq_nil_of_le (by omega)];simp[aj]
 | f::fs,cs,off,total,hc,hl,hf=>by
   simp only[mH] at hc
   split at hc
   · rename_i ho
     subst ho
     obtain⟨a,D9,UR,US,Mr⟩:=hf f (by simp)
     obtain⟨b,GJ,Mn,UT,UU⟩:=rB hc hl (fun g hg=>hf g (by simp[hg]))
     have hle:f.offset+X.P.cellsOf f.type≤total:=by
      clear D9 UR US Mr GJ Mn UT UU hf
      have: ∀ (fs:List Field) (o tt:Nat),mH X.P fs o=some tt→o≤tt:=by
       intro fs
       induction fs with
       | nil=>intro o tt h;simp[mH] at h;omega
       | cons g gs ih=>
         intro o tt h
         simp only[mH] at h
         split at h
         · have:=ih _ _ h;omega
         · simp at h
      exact this _ _ _ hc
     have WL:a.length=X.P.cellsOf f.type:=by
      have:=(Mr (fun _=> ⟨0,0,0⟩)).length
      rw[this];simp;omega
     refine⟨a++b,⟨a,b,rfl,WL,D9,GJ⟩,by simp[UR,Mn],by rw[kX,US,UT];rfl,fun φ=> ?_⟩
     have e:cs.drop f.offset=(cs.drop f.offset).take (X.P.cellsOf f.type)++cs.drop (f.offset+X.P.cellsOf f.type):=by
      rw[←List.drop_drop,List.take_append_drop]
     rw[e]
     exact aj.append (Mr φ) (UU φ)
   · simp at hc
theorem tD {n:Nat} {e:TypeId}: ∀ (k:Nat) {cs:List Value} (j:Nat),cs.length=(j+k)*X.P.cellsOf e→
   (∀i,i<j+k→ ∃vs,Good X w n e vs ((cs.drop (i*X.P.cellsOf e)).take (X.P.cellsOf e)))→
   ∃vs,UQ (TV X.P n e) (X.P.cellsOf e) k vs∧vs.all V.aI=true∧V.aq vs=true∧ ∀φ,aj (free X) (still w φ) vs (cs.drop (j*X.P.cellsOf e))
 | 0,cs,j,hl,_=>by
   refine⟨[],rfl,rfl,rfl,fun φ=> ?_⟩
   rw[List.drop_eq_nil_of_le (by rw[hl];simp)];simp[aj]
 | k+1,cs,j,hl,hf=>by
   obtain⟨a,D9,UR,US,Mr⟩:=hf j (by omega)
   have e1:j+1+k=j+(k+1):=by omega
   obtain⟨b,GJ,Mn,UT,UU⟩:=tD k (cs:=cs) (j+1) (by rw[e1];exact hl) (fun i hi=>hf i (by omega))
   have WL:a.length=X.P.cellsOf e:=by
    have:=(Mr (fun _=> ⟨0,0,0⟩)).length
    rw[this];simp
    rw[hl,←Nat.sub_mul]
    have:1≤j+(k+1) - j:=by omega
    exact Nat.min_eq_left (Nat.le_mul_of_pos_left _ this)
   refine⟨a++b,⟨a,b,rfl,WL,D9,GJ⟩,by simp[UR,Mn],by rw[kX,US,UT];rfl,fun φ=> ?_⟩
   have e:cs.drop (j*X.P.cellsOf e)=(cs.drop (j*X.P.cellsOf e)).take (X.P.cellsOf e)++cs.drop ((j+1)*X.P.cellsOf e):=by
    rw[Nat.add_mul,Nat.one_mul,←List.drop_drop,List.take_append_drop]
   rw[e]
   exact aj.append (Mr φ) (UU φ)
theorem Ag {α:Type} {p:Nat→α→Prop}: ∀ (n:Nat),(∀i,i<n→ ∃x,p i x)→ ∃xs:List α,xs.length=n∧ ∀i x,xs[i]? =some x→p i x
 | 0,_=> ⟨[],rfl,by simp⟩
 | n+1,h=>by
   obtain⟨xs,h1,h2⟩:=Ag n (fun i hi=>h i (by omega))
   obtain⟨x,hx⟩:=h n (by omega)
   refine⟨xs++[x],by simp[h1],fun i y hy=> ?_⟩
   by_cases hi:i<xs.length
   · rw[List.getElem?_append_left hi] at hy;exact h2 i y hy
   · rw[List.getElem?_append_right (by omega)] at hy
     have:i - xs.length=0:=by
      have:=(List.getElem?_eq_some_iff.1 hy).1
      simp at this;omega
     rw[this] at hy
     simp at hy;subst hy
     have:i=n:=by omega
     subst this;exact hx
theorem trod_good (hS:S.all (wc X.P S)=true): ∀ (n:Nat) (t:TypeId) (cs:List Value) (x:DataW H×List MemPlace),t ∈ S→DataW.trod enc X.P w base spare held n t cs=some x→ ∃vs,Good X w n t vs cs:=by
 intro n
 induction n with
 | zero=>intro t cs x _ h;simp[DataW.trod] at h
 | succ n ih=>
   intro t cs x ht h
   have hp:=List.all_eq_true.1 hS t ht
   unfold wc at hp
   cases hu:X.P.underlying t with
   | none=>rw[hu] at hp;simp at hp
   | some desc=>
     rw[hu] at hp
     cases desc with
     | bool=>
       obtain⟨b,rfl,_⟩:=DataW.trod_bool hu h
       exact⟨[.bool b],by simp[TV,hu],rfl,rfl,fun φ=>by simp[aj,ak]⟩
     | int k=>
       obtain⟨m,rfl,_,hw⟩:=DataW.trod_int hu h
       exact⟨[.int k m],by simp[TV,hu,hw],rfl,rfl,fun φ=>by simp[aj,ak]⟩
     | string=>
       obtain⟨s,rfl,_,hm⟩:=DataW.trod_string hu h
       exact⟨[.str s.data.toList],by simp only[TV,hu];exact⟨_,rfl,by simpa using hm⟩,rfl,rfl,fun φ=>by simp only[aj,ak];exact⟨⟨s,rfl,rfl⟩,trivial⟩⟩
     | slice e=>
       simp only[Bool.and_eq_true,decide_eq_true_eq] at hp
       obtain⟨⟨_,xw⟩,he⟩:=hp
       have mW:e ∈ S:=by simpa using he
       rcases DataW.trod_slice hu h with⟨rfl,_⟩ | ⟨a,len,cap,elems,rest,m,hn,rfl,_,hb,hl,hm,hlen,qO,_,_⟩
       · exact⟨[.nils],by simp[TV,hu],rfl,rfl,fun φ=>by simp only[aj,ak];exact⟨⟨none,rfl⟩,trivial⟩⟩
       · obtain rfl:n=m:=by omega
         have each: ∀i,i<len→ ∃q:V×Value,(∃ws,TV X.P n e ws∧q.1=rM X.P e ws)∧q.1.aC=true∧q.1.cX=true∧(∀φ,ak (free X) (still w φ) q.1 q.2)∧
             q.2.cells.size=X.P.cellsOf e∧ ∀j c,q.2.cells[j]? =some c→w.cell? ((a.add (i*X.P.cellsOf e)).add j)=some c:=by
           intro i hi
           have h1:=qO i hi
           rw[List.getElem?_eq_getElem (by omega)] at h1
           rw[Option.bind_eq_some_iff] at h1
           obtain⟨cI,hc,tO⟩:=h1
           obtain⟨_,vN,A4⟩:=World.cells?_some hc
           obtain⟨ws,g1,g2,g3,g4⟩:=ih e cI _ mW tO
           have mZ:ws.length=cI.length:=(g4 (fun _=> ⟨0,0,0⟩)).length
           have we: ∀ (v:Value),v.cells.toList=cI→v.cells.size=X.P.cellsOf e∧ ∀j c,v.cells[j]? =some c→w.cell? ((a.add (i*X.P.cellsOf e)).add j)=some c:=by
             intro v hv
             have hs:v.cells.size=cI.length:=by rw[←hv];simp
             refine⟨by rw[hs,vN],fun j c hj=> ?_⟩
             have FO:cI[j]? =some c:=by rw[←hv];simpa using hj
             rw[A4 j (by have:=(List.getElem?_eq_some_iff.1 FO).1;omega)];exact FO
           have Bb: (∃fs,X.P.underlying e=some (.struct fs))∨(∃k e',X.P.underlying e=some (.array k e'))∨rM X.P e ws=ws.headD dp∧ws.length=1:=by
             have uL:=List.all_eq_true.1 hS e mW
             unfold wc at uL
             cases WM:X.P.underlying e with
             | none=>rw[WM] at uL;simp at uL
             | some d=>
               rw[WM] at uL
               cases d<;>simp at uL
               case struct fs=>exact .inl ⟨fs,rfl⟩
               case array k e'=>exact .inr (.inl ⟨k,e',rfl⟩)
               all_goals exact .inr (.inr ⟨by simp[rM,WM],by simp_all⟩)
           have asAgg:rM X.P e ws= .agg ws→ ∃q:V×Value,(∃ws,TV X.P n e ws∧q.1=rM X.P e ws)∧q.1.aC=true∧q.1.cX=true∧(∀φ,ak (free X) (still w φ) q.1 q.2)∧
               q.2.cells.size=X.P.cellsOf e∧ ∀j c,q.2.cells[j]? =some c→w.cell? ((a.add (i*X.P.cellsOf e)).add j)=some c:=by
             intro Rj
             refine⟨(rM X.P e ws,.agg cI.toArray),⟨ws,g1,rfl⟩,?_,?_,fun φ=> ?_,we _ (by simp[Value.cells])⟩
             · simp only[Rj,V.aC,g3]
             · simp[Rj,V.cX,V.isAgg]
             · simp only[Rj,ak];exact⟨g2,_,rfl,by simpa using g4 φ⟩
           rcases Bb with⟨fs,hs⟩ | ⟨k,e',hs⟩ | ⟨Rj,h1⟩
           · exact asAgg (by simp[rM,hs])
           · exact asAgg (by simp[rM,hs])
           · match ws,h1,cI,mZ,g1,g2,g3,g4,we with
             | [x],_,[c],_,g1,g2,g3,g4,we=>
               have X1: ∀φ,ak (free X) (still w φ) x c:=fun φ=>by have:=g4 φ;simp only[aj] at this;exact this.1
               have X2:x.aI=true:=by simpa using g2
               refine⟨(x,c),⟨[x],g1,by simp[Rj]⟩,by simpa [V.aq] using g3,by simp[V.cX,X2],X1,we c ?_⟩
               rw[((X1 (fun _=> ⟨0,0,0⟩)).kM X2).2]
         obtain⟨qs,q1,q2⟩:=Ag len each
         refine⟨[.lit (X.P.cellsOf e) (qs.map (·.1))],?_,rfl,rfl,fun φ=> ?_⟩
         · simp only[TV,hu]
           refine .inr ⟨_,rfl,by simp[q1];omega,fun x hx=> ?_⟩
           obtain⟨q,hq,rfl⟩:=List.mem_map.1 hx
           obtain⟨i,hi⟩:=List.mem_iff_getElem?.1 hq
           exact(q2 i q hi).1
         · simp only[  aj,ak,and_true]
           refine⟨xE fun x hx=> ?_,?_,some a,cap,qs.map (·.2),by simp[q1],by simp[q1];omega,?_,?_⟩
           · obtain⟨q,hq,rfl⟩:=List.mem_map.1 hx
             obtain⟨i,hi⟩:=List.mem_iff_getElem?.1 hq
             exact(q2 i q hi).2.1
           · rw[List.all_eq_true]
             intro x hx
             obtain⟨q,hq,rfl⟩:=List.mem_map.1 hx
             obtain⟨i,hi⟩:=List.mem_iff_getElem?.1 hq
             exact(q2 i q hi).2.2.1
           · refine aj.sP (by simp) fun i y u hy hu=> ?_
             rw[List.getElem?_map] at hy hu
             cases hq:qs[i]? with
             | none=>simp[hq] at hy
             | some q=>
               simp[hq] at hy hu
               subst hy hu
               exact(q2 i q hq).2.2.2.1 φ
           · cases qs with
             | nil=>exact .inl rfl
             | cons q0 qs=>
               right
               have cR: ∀ (i:Nat) (q:V×Value),(q0::qs)[i]? =some q→ ∀j c,q.2.cells[j]? =some c→w.cell? ((a.add (i*X.P.cellsOf e)).add j)=some c:=fun i q hi=> (q2 i q hi).2.2.2.2.2
               have cE: ∀ (i:Nat) (q:V×Value),(q0::qs)[i]? =some q→q.2.cells.size=X.P.cellsOf e:=fun i q hi=> (q2 i q hi).2.2.2.2.1
               have h0:=cR 0 q0 rfl 0 (q0.2.cells[0]'(by rw[cE 0 q0 rfl];exact xw)) (Array.getElem?_eq_getElem _)
               obtain⟨ab,ao,X3⟩:=a
               have sG:X3=none∧ab<w.heap.size:=by
                 simp only[Nat.zero_mul,Addr.add,if_true,World.cell?] at h0
                 split at h0
                 ·  rename_i c T f hh
                    split at h0
                    · simp at h0
                    · rename_i hn
                      exact⟨by cases X3<;>simp_all,(Array.getElem?_eq_some_iff.1 hh).1⟩
                 · simp at h0
               obtain⟨rfl,bA⟩:=sG
               refine⟨ab,ao,rfl,?_,bA,fun i v hv=> ?_⟩
               · rintro(⟨r,h1,_⟩ | h)
                 · simp[bD] at h1
                 · exact h
               · rw[  List.getElem?_map] at hv
                 cases hq: (q0::qs)[i]? with
                 | none=>simp[hq] at hv
                 |  some q=>
                    simp[hq] at hv
                    subst hv
                    refine⟨cE i q hq,fun j c hc=> ?_⟩
                    have:=cR i q hq j c hc
                    have o7: ∀o m,Addr.add ⟨ab,o,none⟩ m=⟨ab,o+m,none⟩:=by
                      intro o m
                      simp only[Addr.add]
                      split
                      · rename_i h0;subst h0;rfl
                      · rfl
                    rw[o7,o7] at this
                    exact this
     | struct fs=>
       simp only[Bool.and_eq_true,beq_iff_eq] at hp
       obtain⟨Af,oX⟩:=hp
       obtain⟨xs,m,hm,_,hlen,tM,hf⟩:=DataW.trod_struct hu h
       obtain rfl:n=m:=by omega
       have key: ∀f ∈ fs.toList,∃vs,Good X w n f.type vs ((cs.drop f.offset).take (X.P.cellsOf f.type)):=by
         intro f X4
         obtain⟨i,hi⟩:=List.mem_iff_getElem?.1 X4
         have yc:fs[i]? =some f:=by simpa using hi
         have h1:=hf i f yc
         have ZD:i<xs.length:=by rw[tM];exact(Array.getElem?_eq_some_iff.1 yc).1
         rw[List.getElem?_eq_getElem ZD] at h1
         exact ih f.type _ _ (by have:=List.all_eq_true.1 oX f X4;simpa using this) h1
       obtain⟨vs,k1,k2,k3,k4⟩:=rB Af hlen key
       exact⟨vs,by simp only[TV,hu];exact k1,k2,k3,fun φ=>by simpa using k4 φ⟩
     | array k e=>
       simp only[Bool.and_eq_true,beq_iff_eq] at hp
       obtain⟨he,cE⟩:=hp
       obtain⟨xs,m,hm,_,hlen,tM,hf⟩:=DataW.trod_array hu h
       obtain rfl:n=m:=by omega
       have key: ∀i,i< 0+k→ ∃vs,Good X w n e vs ((cs.drop (i*X.P.cellsOf e)).take (X.P.cellsOf e)):=by
         intro i hi
         have h1:=hf i (by omega)
         rw[List.getElem?_eq_getElem (by omega)] at h1
         exact ih e _ _ (by simpa using he) h1
       obtain⟨vs,k1,k2,k3,k4⟩:=tD k 0 (by rw[hlen,cE];simp) key
       exact⟨vs,by simp only[TV,hu];exact k1,k2,k3,fun φ=>by simpa using k4 φ⟩
     | _=>simp at hp
where
 xE {cs:List V} (h: ∀x ∈ cs,V.aC x=true):V.aq cs=true:=by
  induction cs with
  | nil=>rfl
  | cons c cs ih=>simp only[V.aq,Bool.and_eq_true];exact⟨h c (by simp),ih fun x hx=>h x (by simp[hx])⟩
end
end Go.AM
namespace Go.AM
open Go Go.RowKit
def DG (X:TrEnv) (g:Nat) (af:aB):Prop:= ∃F fn h c,X.jg F=some g∧X.P.funcs[F]? =some fn∧(fn.name== "runtime.NumGoroutine")=false∧fn.body=some c∧aw X h fn=some af∧af.nparams≤fn.ntmps
def ju (X:TrEnv):List (Nat×aB)→Prop
 | []=>True
 | p::ps=>DG X p.1 p.2∧ju X ps
def Ah (X:TrEnv) (g:Nat) (fn:List V→Option fh):Prop:= ∃F,X.jg F=some g∧ ∀as res,fn as=some res→cu X F as res
def oB (X:TrEnv):List (Nat× (List V→Option fh))→Prop
 | []=>True
 | p::ps=>Ah X p.1 p.2∧oB X ps
theorem ju.mem {X:TrEnv}: ∀ {tab:List (Nat×aB)},ju X tab→ ∀p ∈ tab,DG X p.1 p.2
 | [],_,p,hp=>by simp at hp
 | q::qs,h,p,hp=>by
   rcases List.mem_cons.1 hp with rfl| hp
   · exact h.1
   · exact ju.mem h.2 p hp
theorem oB.mem {X:TrEnv}: ∀ {tab:List (Nat× (List V→Option fh))},oB X tab→ ∀p ∈ tab,Ah X p.1 p.2
 | [],_,p,hp=>by simp at hp
 | q::qs,h,p,hp=>by
   rcases List.mem_cons.1 hp with rfl| hp
   · exact h.1
   · exact oB.mem h.2 p hp
def Ai (X:TrEnv) (g:Nat) (h:Hf):Prop:= ∃F,X.jg F=some g∧ ∀C:bb,(∀f F as res,X.jg F=some f→C f as=some res→cu X F as res)→ ∀as res,h.h C as=some res→cu X F as res
def qC (X:TrEnv):List (Nat×Hf)→Prop
 | []=>True
 | p::ps=>Ai X p.1 p.2∧qC X ps
theorem qC.mem {X:TrEnv}: ∀ {tab:List (Nat×Hf)},qC X tab→ ∀p ∈ tab,Ai X p.1 p.2
 | [],_,p,hp=>by simp at hp
 | q::qs,h,p,hp=>by
   rcases List.mem_cons.1 hp with rfl| hp
   · exact h.1
   · exact qC.mem h.2 p hp
def xF (X:TrEnv) (g:Nat) (it:List V→Option (List (List V))):Prop:= ∃F,X.jg F=some g∧ ∀caps xs,it caps=some xs→ ∀ (B:Nat→Prop) (K:Nat×Nat) (μ:Mu) (lb:Array Value),aj ⟨X,B,K⟩ μ caps lb.toList→bj ⟨X,B,K⟩ μ→r5 ⟨X,B,K⟩ μ F lb xs
def kY (X:TrEnv):List (Nat× (List V→Option (List (List V))))→Prop
 | []=>True
 | p::ps=>xF X p.1 p.2∧kY X ps
theorem kY.mem {X:TrEnv}: ∀ {tab:List (Nat× (List V→Option (List (List V))))},kY X tab→ ∀p ∈ tab,xF X p.1 p.2
 | [],_,p,hp=>by simp at hp
 | q::qs,h,p,hp=>by
   rcases List.mem_cons.1 hp with rfl| hp
   · exact h.1
   · exact kY.mem h.2 p hp
def gK:List Nat→Bool
 | []=>true
 | x::xs=> !xs.contains x &&gK xs
theorem jW: ∀ {l:List Nat},gK l=true→ ∀ {i j x:Nat},l[i]? =some x→l[j]? =some x→i=j
 | [],_,i,j,x,h,_=>by simp at h
 | y::l,hd,i,j,x,hi,hj=>by
   simp only[gK,Bool.and_eq_true,Bool.not_eq_true'] at hd
   have kN: ∀k:Nat,l[k]? =some y→False:=fun k hk=>by
     have:l.contains y=true:=by simpa using List.mem_of_getElem? hk
     rw[hd.1] at this;simp at this
   cases i with
   | zero=>
     cases j with
     | zero=>rfl
     | succ j=>simp at hi hj;subst hi;exact(kN j hj).elim
   | succ i=>
     cases j with
     | zero=>simp at hi hj;subst hj;exact(kN i hi).elim
     | succ j=>simp at hi hj;rw[jW hd.2 hi hj]
theorem xG {P:Program} {fl:List Nat} {tl:List (Nat×Nat)} (hf:gK fl=true) (ht:gK (tl.map (·.2))=true) (hm:P.follows .mixedOrders=true) {tab:List (Nat×aB)} {ext:List (Nat× (List V→Option fh))} {hyb:List (Nat×Hf)} {iter:List (Nat× (List V→Option (List (List V))))}:
   let X:TrEnv:=⟨P,fun F=>fl[F]?,fun t=> (tl.find? (·.1==t)).map (·.2)⟩
   ju X tab→oB X ext→qC X hyb→kY X iter→tB X (L2 tab ext hyb iter):=by
 intro X h1 h2 h3 h4
 have tE: ∀F F' g,X.jg F=some g→X.jg F'=some g→F=F':=fun F F' g h h'=>jW hf h h'
 refine⟨fun t1 t2 k h h'=> ?_,hm,fun f af F h hF=> ?_,fun f as res F h hF=> ?_,fun g F caps xs h hF=> ?_,fun f g F h hF C hC as res hr=> ?_⟩
 · simp only[X,Option.map_eq_some_iff] at h h'
   obtain⟨p,hp,rfl⟩:=h
   obtain⟨q,hq,ZE⟩:=h'
   have e1:=List.find?_some hp
   have e2:=List.find?_some hq
   obtain⟨i,hi⟩:=List.mem_iff_getElem?.1 (List.mem_of_find?_eq_some hp)
   obtain⟨j,hj⟩:=List.mem_iff_getElem?.1 (List.mem_of_find?_eq_some hq)
   have:i=j:=jW ht (i:=i) (j:=j) (x:=p.2) (by simp[hi]) (by simp[hj,ZE])
   subst this
   rw[hi] at hj;injection hj with hj;subst hj
   simp at e1 e2;exact e1.symm.trans e2
 · simp only[L2,My,Option.map_eq_some_iff] at h
   obtain⟨p,hp,rfl⟩:=h
   have e1:=List.find?_some hp
   simp at e1;subst e1
   obtain⟨F',fn,hh,c,k1,k2,k3,k4,k5,k6⟩:=ju.mem h1 p (List.mem_of_find?_eq_some hp)
   obtain rfl:=tE F F' _ hF k1
   exact⟨fn,hh,c,k2,k3,k4,k5,k6⟩
 · simp only[L2,Gk] at h
   split at h
   · rename_i p hp
     have e1:=List.find?_some hp
     simp at e1;subst e1
     obtain⟨F',k1,k2⟩:=oB.mem h2 p (List.mem_of_find?_eq_some hp)
     obtain rfl:=tE F F' _ hF k1
     exact k2 as res h
   · simp at h
 · simp only[L2,Ce] at h
   split at h
   · rename_i p hp
     have e1:=List.find?_some hp
     simp at e1;subst e1
     obtain⟨F',k1,k2⟩:=kY.mem h4 p (List.mem_of_find?_eq_some hp)
     obtain rfl:=tE F F' _ hF k1
     exact k2 caps xs h
   · simp at h
 · simp only[L2,zy,Option.map_eq_some_iff] at h
   obtain⟨p,hp,rfl⟩:=h
   have e1:=List.find?_some hp
   simp at e1;subst e1
   obtain⟨F',k1,k2⟩:=qC.mem h3 p (List.mem_of_find?_eq_some hp)
   obtain rfl:=tE F F' _ hF k1
   exact k2 C hC as res hr
theorem xH {μ μ':Mu} (h:Le μ μ') (kN: ∀b,¬μ.own b):Below μ.w.heap.size μ.w μ'.w:=
 ⟨h.os,h.tape,h.output,h.size,fun k hk=> (h.cA k hk (kN k)).1⟩
theorem BI {X:TrEnv} {E:Env} (hE:tB X E) {F g:Nat} (hF:X.jg F=some g) {fn:Func} (pQ:X.P.funcs[F]? =some fn) (lD: (fn.name== "runtime.NumGoroutine")=false) {cd:Code} (ib:fn.body=some cd)
   {args:List V} {b:Bool} (Mc:Ev E g args ⟨.bool b,[]⟩) (hp:V.aq args=true) {w:World} {vals:List Value} (hv: ∀φ,aj (free X) (still w φ) args vals):
   Calls X.P F vals.toArray w fun e w'=>e= .returned (.bool b)∧Below w.heap.size w w'∧ ∀a,a.block<w.heap.size→w'.frozen? a=w.frozen? a:=by
 obtain⟨n,hn⟩:=Mc
 have hs:cu X F args ⟨.bool b,[]⟩:=tC hE n g F args _ hF hn
 have hO: (enter args).O=fun _=>bD:=pM hp
 have hT: ∀ (t:Nat) (a:V),args[t]? =some a→(enter args).T t=a:=fun t a ha=>by rw[fu hp];simp[List.getD,ha]
 have yg:=hv (fun _=> ⟨0,0,0⟩)
 have hU:=hs (fun _=>False) (0,0) w (fun _=> ⟨0,0,0⟩) vals yg.length.symm (fun t v' ye=>by
   have hl:t<args.length:=by rw[yg.length];exact(List.getElem?_eq_some_iff.1 ye).1
   obtain⟨u,hu,bQ⟩:=yg.get (List.getElem?_eq_getElem hl)
   rw[ye] at hu;injection hu with hu;subst hu
   rw[hT t _ (List.getElem?_eq_getElem hl),hO];exact bQ) (by
   rw[hO]
   exact⟨fun r es h=>by simp[bD] at h,fun r1 r2 _ h=>by simp[bD] at h,fun r h=>by simp[bD] at h,fun b h=>h.elim⟩)
 have Ln: (callFunc F vals.toArray).run X.P w= .ok (.enter F vals.toArray) w:=by
   simp[callFunc,Sem.run_bind,program,Sem.run,pQ,ib]
   simpa using lD
 rw[Ln] at hU
 simp only[ud] at hU
 refine Calls.mono hU fun e w' he=> ?_
 cases e with
 | panicked c=>exact he.elim
 | outgrown=>exact he.elim
 | returned val=>
   obtain⟨φ',T',O',v0,refs,k1,k2,k3,k4,k5,k6⟩:=he
   have kN: ∀b,¬ (Mu.mk w (fun _=> ⟨0,0,0⟩) (enter args).O).own b:=fun b=>by rw[hO];rintro⟨r,h,_⟩;simp[bD] at h
   refine⟨?_,xH k1 kN,k1.frozen⟩
   · have:=(k4.Q4 k2 k3).pure rfl
     simp only[ak] at this
     rw[this]
end Go.AM
namespace Go.AM
open Ieee
theorem oC {n k:Nat} (h:n< 2 ^ k) (h0:n≠0):n.log2<k:=(Nat.log2_lt h0).2 h
theorem zi {mag:Nat}:Toward.even.cut false (mag<<< (52 - mag.log2)) (mag.log2 - 52)≤9007199254740992:=by
 have h1:mag< 2 ^ (mag.log2+1):=Nat.lt_log2_self
 have key:mag<<< (52 - mag.log2) / (1 <<< min (mag.log2 - 52) ((mag<<< (52 - mag.log2)).log2+2)) < 9007199254740992:=by
  by_cases he:mag.log2≤52
  · have e2:mag.log2 - 52=0:=by omega
    rw[e2,Nat.zero_min]
    rw[Nat.shiftLeft_eq,Nat.shiftLeft_eq,Nat.pow_zero,Nat.mul_one,Nat.div_one]
    calc mag*2 ^ (52 - mag.log2) < 2 ^ (mag.log2+1)*2 ^ (52 - mag.log2):=Nat.mul_lt_mul_of_pos_right h1 (Nat.two_pow_pos _)
     _=2 ^ 53:=by rw[←Nat.pow_add];congr 1;omega
     _=9007199254740992:=by decide
  · have e1:52 - mag.log2=0:=by omega
    rw[e1]
    simp only[Nat.shiftLeft_zero]
    rw[Nat.min_eq_left (by omega)]
    simp only[Nat.shiftLeft_eq,Nat.one_mul]
    refine Nat.div_lt_of_lt_mul ?_
    calc mag< 2 ^ (mag.log2+1):=h1
     _=2 ^ (mag.log2 - 52)*2 ^ 53:=by rw[←Nat.pow_add];congr 1;omega
     _=2 ^ (mag.log2 - 52)*9007199254740992:=by congr 1
 unfold Toward.cut
 simp only
 generalize mag<<< (52 - mag.log2) / (1 <<< min (mag.log2 - 52) ((mag<<< (52 - mag.log2)).log2+2))=low at key ⊢
 have hb: ∀b:Bool,low+b.toNat≤9007199254740992:=fun b=>by have:=Bool.toNat_le b;omega
 exact hb _
theorem nT {mag:Nat} {place:Int} (h0:mag≠0) (h1: -1000≤place+mag.log2) (h2:place+mag.log2≤200):
  ∃w:Nat,double.nearest false mag place=w∧w≤4503599627370496*((place+mag.log2+1022).toNat+2):=by
 refine⟨_,rfl,?_⟩
 unfold Format.nearest
 rw[if_neg h0]
 have e1:double.leastPlace= -1074:=by simp[Format.leastPlace,double]
 have e2:double.fractionBits=52:=rfl
 have e3:double.binade=4503599627370496:=by simp[Format.binade,double]
 have e4:max (place+(mag.log2:Int) - (double.fractionBits:Nat)) double.leastPlace=place+mag.log2 - 52:=by
  rw[e1,e2];omega
 rw[e4]
 simp only[Format.word,e1,e3]
 have a1: (place - (place+(mag.log2:Int) - 52)).toNat=52 - mag.log2:=by omega
 have a2: (place+(mag.log2:Int) - 52 - place).toNat=mag.log2 - 52:=by omega
 have a3: (place+(mag.log2:Int) - 52 - -1074).toNat=(place+mag.log2+1022).toNat:=by congr 1;omega
 rw[a1,a2,a3]
 have hk:=zi (mag:=mag)
 simp only[Bool.false_eq_true,if_false]
 refine Nat.le_trans (Nat.min_le_left _ _) ?_
 rw[Nat.mul_add,Nat.mul_comm]
 exact Nat.add_le_add_left hk _
theorem lp:double.leastPlace= -1074:=by simp[Format.leastPlace,double]
theorem bi:double.binade=4503599627370496:=by simp[Format.binade,double]
theorem sw:double.signWeight=9223372036854775808:=by simp[Format.signWeight,double]
theorem ir:double.infRung=9218868437227405312:=by simp[Format.infRung,Format.binade,double]
theorem tF {w T:Nat} (hT:w≤4503599627370496*(T+2)) (hT2:T≤1290): ∃m p,double.read w= .number false m p∧m< 9007199254740992∧ -1074≤p∧p≤ -1072+(T:Int):=by
 have hq:w / 4503599627370496≤T+2:=Nat.div_le_of_le_mul hT
 have h:w≤4503599627370496*1292:=Nat.le_trans hT (Nat.mul_le_mul_left _ (by omega))
 have bA:w< 9223372036854775808:=Nat.lt_of_le_of_lt h (by decide)
 have fJ:w< 9218868437227405312:=Nat.lt_of_le_of_lt h (by decide)
 have h1:w / 9223372036854775808=0:=Nat.div_eq_of_lt bA
 have h2:w % 9223372036854775808=w:=Nat.mod_eq_of_lt bA
 have DH: (w / 9223372036854775808 % 2==1)=false:=by rw[h1];rfl
 unfold Format.read
 simp only[lp,bi,sw,ir,h2,DH]
 by_cases hb:w< 4503599627370496
 · simp only[hb,if_true]
   exact⟨w,-1074,rfl,Nat.lt_trans hb (by decide),by decide,by clear h1 h2 DH hb h bA fJ hq hT;omega⟩
 · have hc:=fJ
   simp only[hb,hc,if_true,if_false]
   refine⟨4503599627370496+w % 4503599627370496,-1074+((w / 4503599627370496 - 1:Nat):Int),rfl,?_,?_,?_⟩
   · have h9:=Nat.mod_lt w (show 0 < 4503599627370496 by decide)
     clear h1 h2 DH hc hb h bA fJ hT hq
     generalize w % 4503599627370496=r at h9 ⊢
     omega
   · clear h1 h2 DH hc hb h bA fJ hT hq
     generalize w / 4503599627370496 - 1=q
     omega
   · clear h1 h2 DH hc hb h bA fJ hT
     generalize w / 4503599627370496=q at hq ⊢
     omega
theorem mI (n:Nat): ∀ (todo root:Nat),root*root≤n→Datum.rootFrom n todo root*Datum.rootFrom n todo root≤n
 | 0,root,h=>h
 | todo+1,root,h=>by
   unfold Datum.rootFrom
   by_cases h': (root+1 <<< todo)*(root+1 <<< todo)≤n
   · simp only[h',if_true];exact mI n todo _ h'
   · simp only[h',if_false];exact mI n todo _ h
theorem DI { n:Int} (h0:0 <n) (h1:n≤9223372036854775807):
   ∃r m,FloatKind.f64.format.sqrt (FloatKind.f64.nearest n)=some r∧(FloatKind.f64.decode r).toInt .zero=some m∧0≤m∧m≤9223372036854775807:=by
 have L6:n.natAbs≠0:=by omega
 have ZF:n.natAbs.log2< 63:=oC (by
   have: (2:Nat) ^ 63=9223372036854775808:=by decide
   omega) L6
 have eN:FloatKind.f64.nearest n=double.nearest false n.natAbs 0:=by
   have:decide (n< 0)=false:=by simp;omega
   simp only[FloatKind.nearest,FloatKind.encode,FloatKind.format,Format.write,this]
 obtain⟨w,hw,Lk⟩:=nT (mag:=n.natAbs) (place:=0) L6 (by omega) (by omega)
 obtain⟨m,p,hr,hm,QD,hp⟩:=tF Lk (by clear Lk;omega)
 clear Lk
 rw[eN,hw]
 have hpb:p≤13:=by clear hm;omega
 have fin: ∀ (mag:Nat) (place:Int),mag≠0→ -1000≤place+mag.log2→place+mag.log2≤59→
    ∃r k,double.write (.number false mag place)=r∧(double.read r).toInt .zero=some k∧0≤k∧k≤9223372036854775807:=by
   intro mag place g0 g1 g2
   obtain⟨w2,wk,Ls⟩:=nT (mag:=mag) (place:=place) g0 g1 (by omega)
   obtain⟨m3,p3,QZ,hm3,hp3,ZG⟩:=tF Ls (by clear Ls;omega)
   clear Ls
   have hp9:p3≤9:=by omega
   refine⟨w2,_,wk,by rw[QZ];rfl,?_⟩
   have ZH:Toward.zero.cut false (m3<<< p3.toNat) (-p3).toNat≤m3<<< p3.toNat:=by
    unfold Toward.cut
    simp only[Bool.toNat_false,Nat.add_zero]
    exact Nat.div_le_self _ _
   have XV:m3<<< p3.toNat≤m3*512:=by
    rw[Nat.shiftLeft_eq]
    refine Nat.mul_le_mul_left _ ?_
    calc 2 ^ p3.toNat≤2 ^ 9:=Nat.pow_le_pow_right (by omega) (by omega)
      _=512:=by decide
   simp only[signed,Bool.false_eq_true,if_false,Nat.shiftLeft_zero]
   omega
 show ∃r k,(((double.read w).root (double.fractionBits+2)).map double.write)=some r∧(double.read r).toInt .zero=some k∧0≤k∧k≤9223372036854775807
 rw[hr]
 simp only[Datum.root]
 by_cases Bh:m=0
 · subst Bh
   rw[if_pos rfl]
   exact⟨0,0,by simp[Format.write,Format.nearest,Format.word],by decide,by decide,by decide⟩
 · rw[if_neg Bh]
   simp only[Bool.false_eq_true,if_false]
   have e2:double.fractionBits=52:=rfl
   rw[e2]
   have FK:m.log2< 53:=oC (by
    have: (2:Nat) ^ 53=9007199254740992:=by decide
    omega) Bh
   generalize X5:2*(52+2) - m.log2+((p - (2*(52+2) - m.log2:Nat)) % 2).toNat=more
   have hmb:56≤more∧more≤109:=by omega
   generalize ZI:Datum.rootFrom (m<<< more) ((m<<< more).log2 / 2+1) 0=whole
   have hle:whole*whole≤m<<< more:=by rw[←ZI];exact mI _ _ _ (by simp)
   have hbound:whole< 2 ^ 81:=by
    rw[Nat.shiftLeft_eq] at hle
    have h2:m*2 ^ more< 2 ^ 162:=by
      calc m*2 ^ more< 2 ^ 53*2 ^ more:=Nat.mul_lt_mul_of_pos_right (by
            have: (2:Nat) ^ 53=9007199254740992:=by decide
            omega) (Nat.two_pow_pos _)
       _=2 ^ (53+more):=by rw[←Nat.pow_add]
       _≤2 ^ 162:=Nat.pow_le_pow_right (by omega) (by omega)
    rcases Nat.lt_or_ge whole (2 ^ 81) with h| h
    · exact h
    · have:2 ^ 81*2 ^ 81≤whole*whole:=Nat.mul_le_mul h h
      have e: (2:Nat) ^ 81*2 ^ 81=2 ^ 162:=by rw[←Nat.pow_add]
      omega
   have xw:m<<< more≠0:=by
    rw[Nat.shiftLeft_eq]
    exact Nat.mul_ne_zero Bh (by have:=Nat.two_pow_pos more;omega)
   generalize Lt:2*whole+(whole*whole !=m<<< more).toNat=F6
   have G8:F6≠0:=by
    intro h
    rw[h] at Lt
    have ZJ:whole=0:=by omega
    subst ZJ
    have: (0*0 !=m<<< more)=true:=by simp;exact fun h=>xw h.symm
    rw[this] at Lt
    simp at Lt
   have Rk:F6< 2 ^ 83:=by
    have hb: (whole*whole !=m<<< more).toNat≤1:=Bool.toNat_le _
    have e: (2:Nat) ^ 83=4*2 ^ 81:=by decide
    omega
   have zJ:F6.log2< 83:=oC Rk G8
   obtain⟨r,k,g1,g2,g3,g4⟩:=fin F6 ((p - more) / 2 - 1) G8 (by omega) (by omega)
   refine⟨r,k,?_,g2,g3,g4⟩
   simp only[Option.map_some]
   exact congrArg some g1
end Go.AM
